/- Parts of a proof: Q6, Q7, Tt. -/
import Derived.Test.YtmliojdkmfhmmaaGreatW09
import Derived.Test.YtmliojdkmfhmmaaGreatW32
import Derived.Test.YtmliojdkmfhmmaaGreatW20
import Derived.Test.YtmliojdkmfhmmaaGreatW24
import Derived.Test.YtmliojdkmfhmmaaGreatW04
import Derived.Test.YtmliojdkmfhmmaaGreatW36
import Derived.Test.YtmliojdkmfhmmaaGreatW16
import Derived.Test.YtmliojdkmfhmmaaGreatW25
import Derived.Test.YtmliojdkmfhmmaaGreatW13
import Derived.Laws.Bits64
set_option linter.unusedVariables false
set_option linter.unusedSimpArgs false
set_option maxRecDepth 100000
set_option maxHeartbeats 4000000
section
namespace Go.Proofs.YtmliojdkmfhmmaaGreat
attribute [local irreducible] Go.E.wpL Go.E.wpS Go.E.X Go.E.XS Go.E.C Go.E.thn Go.E.blk Go.E.fin Go.E.Y Go.E.U Go.E.F Go.E.Ca Go.E.Res Go.E.bl Go.E.rb Go.E.osl Go.E.rsl Go.E.ex Go.E.ce Go.E.pu Go.E.sK Go.E.gK Go.E.bK Go.E.zK
open Go.RowKit Go.E Go.Ct
variable {B w : World} {L : List As}
theorem copied_any (xb mb : Nat) (x : Ct.X) (m : Int) (h : SH B w (XA xb mb x::L)) (k : Ct.Ok 60 x) :
  Calls Tryz.prog 229 #[.pointer (some ⟨xb,0,none⟩),.int .i64 m] w fun e w'=>∃ y v,Ct.runI (Ct.copiedI m) x=Ct.out y v∧e=.returned (.agg (resV v).toArray)∧SH B w' (XA xb mb y::L)∧Ct.Ok 50 y:=by
 have hlen:=k.len
 refine bn0 Tryz.func229 Tryz.ntmps229 h fun w h=>?_
 refine jA h fun b1 w h=>?_
 refine j211 (gen_x (j:=59) xb mb x h.to (k.less (by omega))) fun y2 v3 q4 w h k=>?_
 have lq4:=Ct.leG q4
 refine go h fun w h=>?_
 refine j211 (alloc_x (j:=58) xb mb y2 ({ kind:=2,gen:=v3 }) {} m (SH.nilN ({ kind:=2,gen:=v3 }) rfl rfl h.to) (k.less (by omega)) (Ct.fit_small _ 2 v3 0 0 0)) fun y5 v6 q7 w h ⟨k,hly5⟩=>?_
 have lq7:=Ct.leA q7
 refine go h fun w h=>?_
 refine j211 (cell_x (j:=57) xb mb y5 v6 h.to (k.less (by omega))) fun y8 v9 q10 w h k=>?_
 have lq10:=Ct.leE q10
 refine go h fun w h=>?_
 exact rr (resC rfl rfl (h.b a1) Row.h)<|⟨_,({ found:=true,trie:={ root:=v9 } } : Ct.Result),Ct.rG q4<|Ct.rA q7<|Ct.rE q10<|Ct.rR,rfl,h.to,(k.less (by omega))⟩
theorem clear_any (xb mb : Nat) (x : Ct.X) (c : Ct.Call) (F : Nat) (h : SH B w (XA xb mb (Ct.X.of c x)::L)) (k : Ct.Ok 60 (Ct.X.of c x)) (hx : (Ct.X.of c x).left<F) :
  Calls Tryz.prog 176 #[.pointer (some ⟨xb,0,none⟩)] w fun e w'=>∃ y v,Ct.runI (Ct.clearI c.trie F) (Ct.X.of c x)=Ct.out y v∧e=.returned (.agg (resV v).toArray)∧SH B w' (XA xb mb y::L)∧Ct.Ok 60 y:=by
 have hlen:=k.len
 refine bn0 Tryz.func176 Tryz.ntmps176 h fun w h=>?_
 refine jA h fun b1 w h=>?_
 refine st (ldr (cs:=trieC c.trie) rfl (h.xr 2 a1 fun _=>rfl) Row.h)<|go h fun w h=>?_
 refine jA h fun b2 w h=>?_
 refine lp (α:=Ct.X × Nat) (fun ρ=>(.c 0 (.pointer (some ⟨xb,0,none⟩)) (.c 2 (.pointer (some ⟨b1,0,none⟩)) (.c 3 (.pointer (some ⟨b2,0,none⟩)) .n)))) (fun ρ w=>SH B w (XA xb mb (Ct.X.of c ρ.1)::bl b2 (trieC c.trie) 35::bl b1 ([.int .i64 0,.bool false,.int .u64 0,.string .empty,.int .i64 0,.int .i64 0,.int .i64 0,.bool false]) 43::L)∧(Ct.runI (Ct.clearI c.trie F) (Ct.X.of c x)=Ct.runI (Ct.clearI c.trie ρ.2) (Ct.X.of c ρ.1))∧(Ct.Ok 60 (Ct.X.of c ρ.1))∧((Ct.X.of c ρ.1).e.stopped=true∨(Ct.X.of c ρ.1).left<ρ.2)) (fun ρ=>ρ.2) (x,F) ⟨rfl,rfl,rfl,trivial⟩ ⟨h.to,(rfl),k,(.inr (by (try dsimp only); omega))⟩ ?_
 rintro ⟨y,n⟩ w ⟨h,hq,k,hn⟩
 dsimp only at *
 refine go h fun w h=>?_
 refine st (ld (v:=.bool (Ct.X.of c y).e.stopped) One.h rfl (h.xc a0 fun _=>rfl))<|go h fun w h=>?_
 refine qc h (fun hd3 w h=>?_) fun hd3 w h=>?_
 have hd4 : (Ct.X.of c y).e.stopped=false:=by simpa using hd3
 refine go h fun w h=>?_
 obtain ⟨n,rfl⟩ : ∃ k,n=k+1 :=⟨n - 1,by have:=hn.resolve_left (by rw [hd4]; decide); omega⟩
 replace hn:=hn.resolve_left (by rw [hd4]; decide)
 refine go h fun w h=>?_
 have kb5:=k
 refine j211 (help_any xb mb (Ct.X.of c y) c.trie h.to (k.less (by omega))) fun y6 v7 q8 w h k=>?_
 obtain ⟨z9,rfl⟩:=Ct.keB q8
 have lq8:=Ct.leB q8
 have ltq8:=Ct.lt_help kb5 (by omega) q8
 have mq8:=Ct.lfB q8
 refine go h fun w h=>?_
 have kb10:=k
 refine j211 (read_any xb mb (Ct.X.of c z9) c.trie v7 h.to (k.less (by omega))) fun y11 v12 q13 w h k=>?_
 obtain ⟨z14,rfl⟩:=Ct.keB q13
 have lq13:=Ct.leB q13
 have ltq13:=Ct.lt_read kb10 q13
 have mq13:=Ct.lfB q13
 refine go h fun w h=>?_
 refine j211 (alloc_x (j:=59) xb mb (Ct.X.of c z14) ({ kind:=3 }) {} 0 (SH.nilN ({ kind:=3 }) rfl rfl h.to) (k.less (by omega)) (Ct.fit_empty _)) fun y15 v16 q17 w h ⟨k,hly15⟩=>?_
 obtain ⟨z18,rfl⟩:=Ct.keA q17
 have lq17:=Ct.leA q17
 have mq17:=Ct.lfA q17
 refine go h fun w h=>?_
 refine j211 (gen_x (j:=58) xb mb (Ct.X.of c z18) h.to (k.less (by omega))) fun y19 v20 q21 w h k=>?_
 obtain ⟨z22,rfl⟩:=Ct.keG q21
 have lq21:=Ct.leG q21
 have mq21:=Ct.lfG q21
 refine go h fun w h=>?_
 refine drH [1,3,5,7,9,11,13,15,16,18] (by kernel_rfl) h (.c r1 .n) fun w h=>go h fun w h=>?_
 refine s211 (alloc_x (j:=57) xb mb (Ct.X.of c z22) ({ kind:=2,gen:=v20 }) {} v16 (SH.nilN ({ kind:=2,gen:=v20 }) rfl rfl h.to) (k.less (by omega)) (Ct.fit_small _ 2 v20 0 0 0)) fun y23 v24 q25 w h ⟨k,hly23⟩=>?_
 obtain ⟨z26,rfl⟩:=Ct.keA q25
 have lq25:=Ct.leA q25
 have mq25:=Ct.lfA q25
 refine go h fun w h=>?_
 refine s211 (rdcss_any xb mb (Ct.X.of c z26) c.trie v7 v12 v24 h.to (k.less (by omega))) fun y27 v28 q29 w h k=>?_
 obtain ⟨z30,rfl⟩:=Ct.keB q29
 have lq29:=Ct.leB q29
 have mq29:=Ct.lfB q29
 refine go h fun w h=>?_
 refine qc h (fun hd31 w h=>?_) fun hd31 w h=>?_
 exact rr (resC rfl rfl (h.b a2) Row.h)<|⟨_,({ found:=true } : Ct.Result),hq.trans<|Ct.rB q8<|Ct.rB q13<|Ct.rA q17<|Ct.rG q21<|Ct.rA q25<|Ct.rB q29<|Ct.rT hd31<|Ct.rR,rfl,h.to,k⟩
 exact ⟨(z30,n),⟨rfl,rfl,rfl,trivial⟩,⟨h,(hq.trans<|Ct.rB q8<|Ct.rB q13<|Ct.rA q17<|Ct.rG q21<|Ct.rA q25<|Ct.rB q29<|Ct.rF hd31<|rfl),k,(ltq8.elim (fun hz=>.inl (Ct.sgB q29 (Ct.sgA q25 (Ct.sgG q21 (Ct.sgA q17 (Ct.sgB q13 hz)))))) fun hz=>.inr (by have:=hz.2; (try dsimp only); omega))⟩,by (try dsimp only); omega⟩
 have hd32 : (Ct.X.of c y).e.stopped=true:=by simpa using hd3
 refine go h fun w h=>?_
 exact rr (resC rfl rfl (h.b a2) Row.h)<|⟨_,({} : Ct.Result),hq.trans<|Ct.rS hd32,rfl,h.to,(k.stop hd32)⟩
theorem snapshot_any (xb mb : Nat) (x : Ct.X) (c : Ct.Call) (fz : Bool) (F : Nat) (h : SH B w (XA xb mb (Ct.X.of c x)::L)) (k : Ct.Ok 60 (Ct.X.of c x)) (hx : (Ct.X.of c x).left<F) :
  Calls Tryz.prog 175 #[.pointer (some ⟨xb,0,none⟩),.bool fz] w fun e w'=>∃ y v,Ct.runI (Ct.snapshotI c.trie fz F) (Ct.X.of c x)=Ct.out y v∧e=.returned (.agg (resV v).toArray)∧SH B w' (XA xb mb y::L)∧Ct.Ok 50 y:=by
 have hlen:=k.len
 refine bn0 Tryz.func175 Tryz.ntmps175 h fun w h=>?_
 refine jA h fun b1 w h=>?_
 refine st (ldr (cs:=trieC c.trie) rfl (h.xr 2 a1 fun _=>rfl) Row.h)<|go h fun w h=>?_
 refine jA h fun b2 w h=>?_
 refine qc h (fun hd3 w h=>?_) fun hd3 w h=>?_
 refine j211 (load_x xb mb (Ct.X.of c x) c.trie.root h.to (k.less (by omega))) fun y4 v5 q6 w h k=>?_
 obtain ⟨z7,rfl⟩:=Ct.keL q6
 have lq6:=Ct.leL q6
 have mq6:=Ct.lfL q6
 refine go h fun w h=>?_
 refine qc h (fun hd8 w h=>?_) fun hd8 w h=>?_
 refine j211 (cell_x (j:=89) xb mb (Ct.X.of c z7) v5 h.to (k.less (by omega))) fun y9 v10 q11 w h k=>?_
 obtain ⟨z12,rfl⟩:=Ct.keE q11
 have lq11:=Ct.leE q11
 have mq11:=Ct.lfE q11
 refine go h fun w h=>?_
 exact rr (resC rfl rfl (h.b a2) Row.h)<|⟨_,({ found:=true,trie:={ root:=v10,readOnly:=true } } : Ct.Result),Ct.rT hd3<|Ct.rL q6<|Ct.rT hd8<|Ct.rE q11<|Ct.rR,rfl,h.to,(k.less (by omega))⟩
 have kb13:=k
 refine j211 (read_any xb mb (Ct.X.of c z7) c.trie v5 h.to (k.less (by omega))) fun y14 v15 q16 w h k=>?_
 obtain ⟨z17,rfl⟩:=Ct.keB q16
 have lq16:=Ct.leB q16
 have ltq16:=Ct.lt_read kb13 q16
 have mq16:=Ct.lfB q16
 refine go h fun w h=>?_
 refine j211 (copied_any xb mb (Ct.X.of c z17) v15 h.to (k.less (by omega)) ) fun y18 v19 q20 w h k=>?_
 obtain ⟨z21,rfl⟩:=Ct.keB q20
 have lq20:=Ct.leB q20
 have mq20:=Ct.lfB q20
 refine go h fun w h=>?_
 exact rr (resC rfl rfl (h.b a2) Row.h)<|⟨_,v19,Ct.rT hd3<|Ct.rL q6<|Ct.rF hd8<|Ct.rB q16<|q20,rfl,h.to,k⟩
 refine lp (α:=Ct.X × Nat) (fun ρ=>(.c 0 (.pointer (some ⟨xb,0,none⟩)) (.c 1 (.bool fz) (.c 4 (.pointer (some ⟨b1,0,none⟩)) (.c 5 (.pointer (some ⟨b2,0,none⟩)) .n))))) (fun ρ w=>SH B w (XA xb mb (Ct.X.of c ρ.1)::bl b2 (trieC c.trie) 35::bl b1 ([.int .i64 0,.bool false,.int .u64 0,.string .empty,.int .i64 0,.int .i64 0,.int .i64 0,.bool false]) 43::L)∧(Ct.runI (Ct.snapshotI c.trie fz F) (Ct.X.of c x)=Ct.runI (Ct.snapI c.trie fz ρ.2) (Ct.X.of c ρ.1))∧(Ct.Ok 60 (Ct.X.of c ρ.1))∧((Ct.X.of c ρ.1).e.stopped=true∨(Ct.X.of c ρ.1).left<ρ.2)) (fun ρ=>ρ.2) (x,F) ⟨rfl,rfl,rfl,rfl,trivial⟩ ⟨h.to,(Ct.rF hd3<|rfl),k,(.inr (by (try dsimp only); omega))⟩ ?_
 rintro ⟨y,n⟩ w ⟨h,hq,k,hn⟩
 dsimp only at *
 refine go h fun w h=>?_
 refine st (ld (v:=.bool (Ct.X.of c y).e.stopped) One.h rfl (h.xc a0 fun _=>rfl))<|go h fun w h=>?_
 refine qc h (fun hd22 w h=>?_) fun hd22 w h=>?_
 have hd23 : (Ct.X.of c y).e.stopped=false:=by simpa using hd22
 refine go h fun w h=>?_
 obtain ⟨n,rfl⟩ : ∃ k,n=k+1 :=⟨n - 1,by have:=hn.resolve_left (by rw [hd23]; decide); omega⟩
 replace hn:=hn.resolve_left (by rw [hd23]; decide)
 refine go h fun w h=>?_
 have kb24:=k
 refine j211 (help_any xb mb (Ct.X.of c y) c.trie h.to (k.less (by omega))) fun y25 v26 q27 w h k=>?_
 obtain ⟨z28,rfl⟩:=Ct.keB q27
 have lq27:=Ct.leB q27
 have ltq27:=Ct.lt_help kb24 (by omega) q27
 have mq27:=Ct.lfB q27
 refine go h fun w h=>?_
 have kb29:=k
 refine j211 (read_any xb mb (Ct.X.of c z28) c.trie v26 h.to (k.less (by omega))) fun y30 v31 q32 w h k=>?_
 obtain ⟨z33,rfl⟩:=Ct.keB q32
 have lq32:=Ct.leB q32
 have ltq32:=Ct.lt_read kb29 q32
 have mq32:=Ct.lfB q32
 refine go h fun w h=>?_
 refine j211 (gen_x (j:=59) xb mb (Ct.X.of c z33) h.to (k.less (by omega))) fun y34 v35 q36 w h k=>?_
 obtain ⟨z37,rfl⟩:=Ct.keG q36
 have lq36:=Ct.leG q36
 have mq36:=Ct.lfG q36
 refine go h fun w h=>?_
 refine drH [1,3,5,7,9,11,13,15,16,18,21] (by kernel_rfl) h (.c r1 .n) fun w h=>go h fun w h=>?_
 refine s211 (alloc_x (j:=58) xb mb (Ct.X.of c z37) ({ kind:=2,gen:=v35 }) {} v31 (SH.nilN ({ kind:=2,gen:=v35 }) rfl rfl h.to) (k.less (by omega)) (Ct.fit_small _ 2 v35 0 0 0)) fun y38 v39 q40 w h ⟨k,hly38⟩=>?_
 obtain ⟨z41,rfl⟩:=Ct.keA q40
 have lq40:=Ct.leA q40
 have mq40:=Ct.lfA q40
 refine go h fun w h=>?_
 refine s211 (rdcss_any xb mb (Ct.X.of c z41) c.trie v26 v31 v39 h.to (k.less (by omega))) fun y42 v43 q44 w h k=>?_
 obtain ⟨z45,rfl⟩:=Ct.keB q44
 have lq44:=Ct.leB q44
 have mq44:=Ct.lfB q44
 refine go h fun w h=>?_
 refine qc h (fun hd46 w h=>?_) fun hd46 w h=>?_
 have hd47 : v43=false:=by simpa using hd46
 refine go h fun w h=>?_
 exact ⟨(z45,n),⟨rfl,rfl,rfl,rfl,trivial⟩,⟨h,(hq.trans<|Ct.rB q27<|Ct.rB q32<|Ct.rG q36<|Ct.rA q40<|Ct.rB q44<|Ct.rnF hd47<|rfl),k,(ltq27.elim (fun hz=>.inl (Ct.sgB q44 (Ct.sgA q40 (Ct.sgG q36 (Ct.sgB q32 hz))))) fun hz=>.inr (by have:=hz.2; (try dsimp only); omega))⟩,by (try dsimp only); omega⟩
 have hd48 : v43=true:=by simpa using hd46
 refine go h fun w h=>?_
 refine qc h (fun hd49 w h=>?_) fun hd49 w h=>?_
 refine j211 (cell_x (j:=59) xb mb (Ct.X.of c z45) v26 h.to (k.less (by omega))) fun y50 v51 q52 w h k=>?_
 obtain ⟨z53,rfl⟩:=Ct.keE q52
 have lq52:=Ct.leE q52
 have mq52:=Ct.lfE q52
 refine go h fun w h=>?_
 exact rr (resC rfl rfl (h.b a2) Row.h)<|⟨_,({ found:=true,trie:={ root:=v51,readOnly:=true } } : Ct.Result),hq.trans<|Ct.rB q27<|Ct.rB q32<|Ct.rG q36<|Ct.rA q40<|Ct.rB q44<|Ct.rnT hd48<|Ct.rT hd49<|Ct.rE q52<|Ct.rR,rfl,h.to,(k.less (by omega))⟩
 refine j211 (copied_any xb mb (Ct.X.of c z45) v31 h.to (k.less (by omega)) ) fun y54 v55 q56 w h k=>?_
 obtain ⟨z57,rfl⟩:=Ct.keB q56
 have lq56:=Ct.leB q56
 have mq56:=Ct.lfB q56
 refine go h fun w h=>?_
 exact rr (resC rfl rfl (h.b a2) Row.h)<|⟨_,v55,hq.trans<|Ct.rB q27<|Ct.rB q32<|Ct.rG q36<|Ct.rA q40<|Ct.rB q44<|Ct.rnT hd48<|Ct.rF hd49<|q56,rfl,h.to,k⟩
 have hd58 : (Ct.X.of c y).e.stopped=true:=by simpa using hd22
 refine go h fun w h=>?_
 exact rr (resC rfl rfl (h.b a2) Row.h)<|⟨_,({} : Ct.Result),hq.trans<|Ct.rS hd58,rfl,h.to,(k.stop hd58)⟩
end Go.Proofs.YtmliojdkmfhmmaaGreat
end
section
namespace Go.Proofs.YtmliojdkmfhmmaaGreat
attribute [local irreducible] Go.E.wpL Go.E.wpS Go.E.X Go.E.XS Go.E.C Go.E.thn Go.E.blk Go.E.fin Go.E.Y Go.E.U Go.E.F Go.E.Ca Go.E.Res Go.E.bl Go.E.rb Go.E.osl Go.E.rsl Go.E.ex Go.E.ce Go.E.pu Go.E.sK Go.E.gK Go.E.bK Go.E.zK Go.E.boxA Go.E.cloA Go.E.codeA
open Go.RowKit Go.E Go.Ct
variable {B w : World} {L : List As}
theorem refused_any (c : Ct.Call) (h : SH B w (L)) (hky : c.key.size≤9223372036854775807) :
  Calls Tryz.prog 164 #[.agg [.int .i64 c.kind,.int .i64 c.trie.root,.bool c.trie.readOnly,.int .i64 c.a,.int .i64 c.b,.int .i64 c.n,.int .i64 c.index,.int .u64 ((c.hash : Nat) : Int),.int .u64 ((c.mask : Nat) : Int),.string c.key,.int .u64 ((c.value : Nat) : Int),.int .u64 ((c.expect : Nat) : Int),.int .i64 c.policy,.bool c.only,.bool c.walk.started,.slice none 0 0,.slice none 0 0,.int .i64 c.answer.err,.bool c.answer.found,.int .u64 ((c.answer.value : Nat) : Int),.string c.answer.key,.int .i64 c.answer.count,.int .i64 c.answer.ref,.int .i64 c.answer.trie.root,.bool c.answer.trie.readOnly].toArray] w fun e w'=>e=.returned (.int .i64 (Ct.refused c))∧SH B w' L:=by
 refine bn0 Tryz.func164 Tryz.ntmps164 h fun w h=>?_
 refine jX h fun b1 w h=>?_
 refine qc h (fun hd2 w h=>?_) fun hd2 w h=>?_
 have hg3:=eq_of_beq hd2
 refine go h fun w h=>?_
 refine cl (ca en_209 rfl) ((rkeyValid_any c.key _ (by omega)).mono ?_)
 rintro _ _ ⟨rfl,rfl⟩
 refine ⟨_,rfl,?_⟩
 refine st (nt rfl)<|xe<|nx<|?_
 refine go h fun w h=>?_
 refine qc h (fun hd4 w h=>?_) fun hd4 w h=>?_
 have hd5 : (Ct.keyValid c.key)=false:=by simpa using hd4
 refine go h fun w h=>?_
 refine rz ?_
 refine ⟨?_,h.drop⟩
 unfold Ct.refused; simp [hd2,hd5]
 have hd6 : (Ct.keyValid c.key)=true:=by simpa using hd4
 refine go h fun w h=>?_
 refine rz ?_
 refine ⟨?_,h.drop⟩
 unfold Ct.refused; simp [hd2,hd6]
 have hg7:=ne_of_beq_false hd2
 refine go h fun w h=>?_
 refine qc h (fun hd8 w h=>?_) fun hd8 w h=>?_
 have hg9:=eq_of_beq hd8
 refine go h fun w h=>?_
 refine cl (ca en_209 rfl) ((rkeyValid_any c.key _ (by omega)).mono ?_)
 rintro _ _ ⟨rfl,rfl⟩
 refine ⟨_,rfl,?_⟩
 refine st (nt rfl)<|xe<|nx<|?_
 refine go h fun w h=>?_
 refine qc h (fun hd10 w h=>?_) fun hd10 w h=>?_
 have hd11 : (Ct.keyValid c.key)=false:=by simpa using hd10
 refine go h fun w h=>?_
 refine rz ?_
 refine ⟨?_,h.drop⟩
 unfold Ct.refused; simp [hd2,hd8,hd11]
 have hd12 : (Ct.keyValid c.key)=true:=by simpa using hd10
 refine go h fun w h=>?_
 refine rz ?_
 refine ⟨?_,h.drop⟩
 unfold Ct.refused; simp [hd2,hd8,hd12]
 have hg13:=ne_of_beq_false hd8
 refine go h fun w h=>?_
 refine qc h (fun hd14 w h=>?_) fun hd14 w h=>?_
 have hg15:=eq_of_beq hd14
 refine go h fun w h=>?_
 refine cl (ca en_209 rfl) ((rkeyValid_any c.key _ (by omega)).mono ?_)
 rintro _ _ ⟨rfl,rfl⟩
 refine ⟨_,rfl,?_⟩
 refine st (nt rfl)<|st (mv rfl)<|?_
 refine go h fun w h=>?_
 refine qg h (fun hd16 w h=>?_) fun hd16 w h=>?_
 have hd17 : (Ct.keyValid c.key)=false:=by simpa using hd16
 refine go h fun w h=>?_
 refine rz ?_
 refine ⟨?_,h.drop⟩
 unfold Ct.refused; simp [hd2,hd8,hd14,hd17]
 have hd18 : (Ct.keyValid c.key)=true:=by simpa using hd16
 refine go h fun w h=>?_
 refine qg h (fun hd19 w h=>?_) fun hd19 w h=>?_
 have hg20:=of_decide_eq_true hd19
 refine go h fun w h=>?_
 refine rz ?_
 refine ⟨?_,h.drop⟩
 unfold Ct.refused; simp [hd2,hd8,hd14,hd18,show decide (0≤c.policy)=false from decide_eq_false (by omega)]
 have hg21:=of_decide_eq_false hd19
 refine go h fun w h=>?_
 refine qc h (fun hd22 w h=>?_) fun hd22 w h=>?_
 have hg23:=of_decide_eq_true hd22
 refine go h fun w h=>?_
 refine rz ?_
 refine ⟨?_,h.drop⟩
 unfold Ct.refused; simp [hd2,hd8,hd14,hd18,show decide (0≤c.policy)=true from decide_eq_true (by omega),show decide (c.policy≤3)=false from decide_eq_false (by omega)]
 have hg24:=of_decide_eq_false hd22
 refine go h fun w h=>?_
 refine rz ?_
 refine ⟨?_,h.drop⟩
 unfold Ct.refused; simp [hd2,hd8,hd14,hd18,show decide (0≤c.policy)=true from decide_eq_true (by omega),show decide (c.policy≤3)=true from decide_eq_true (by omega)]
 have hg25:=ne_of_beq_false hd14
 refine go h fun w h=>?_
 refine qc h (fun hd26 w h=>?_) fun hd26 w h=>?_
 have hg27:=eq_of_beq hd26
 refine go h fun w h=>?_
 refine qc h (fun hd28 w h=>?_) fun hd28 w h=>?_
 have hd29 : c.trie.readOnly=false:=by simpa using hd28
 refine go h fun w h=>?_
 refine rz ?_
 refine ⟨?_,h.drop⟩
 unfold Ct.refused; simp [hd2,hd8,hd14,hd26,hd29]
 have hd30 : c.trie.readOnly=true:=by simpa using hd28
 refine go h fun w h=>?_
 refine rz ?_
 refine ⟨?_,h.drop⟩
 unfold Ct.refused; simp [hd2,hd8,hd14,hd26,hd30]
 have hg31:=ne_of_beq_false hd26
 refine go h fun w h=>?_
 refine qc h (fun hd32 w h=>?_) fun hd32 w h=>?_
 have hg33:=eq_of_beq hd32
 refine go h fun w h=>?_
 refine qc h (fun hd34 w h=>?_) fun hd34 w h=>?_
 have hd35 : c.trie.readOnly=false:=by simpa using hd34
 refine go h fun w h=>?_
 refine rz ?_
 refine ⟨?_,h.drop⟩
 unfold Ct.refused; simp [hd2,hd8,hd14,hd26,hd32,hd35]
 have hd36 : c.trie.readOnly=true:=by simpa using hd34
 refine go h fun w h=>?_
 refine rz ?_
 refine ⟨?_,h.drop⟩
 unfold Ct.refused; simp [hd2,hd8,hd14,hd26,hd32,hd36]
 have hg37:=ne_of_beq_false hd32
 refine go h fun w h=>?_
 refine rz ?_
 refine ⟨?_,h.drop⟩
 unfold Ct.refused; simp [hd2,hd8,hd14,hd26,hd32]
theorem run_any (xb mb : Nat) (x : Ct.X) (c : Ct.Call) (F : Nat) (h : SH B w (XA xb mb (Ct.X.of c x)::L)) (k : Ct.Ok 60 (Ct.X.of c x)) (hx : (Ct.X.of c x).left<F) (hF : F≤100000000000) (hm : c.mask<18446744073709551616) (hky : c.key.size≤9223372036854775807) (hk7 : 7≤c.kind) (hk12 : c.kind≤12) :
  Calls Tryz.prog 113 #[.pointer (some ⟨xb,0,none⟩)] w fun e w'=>∃ y v,Ct.runI (Ct.callI c F) (Ct.X.of c x)=Ct.out y v∧e=.returned (.agg (resV v).toArray)∧SH B w' (XA xb mb y::L)∧Ct.Ok 50 y:=by
 have hlen:=k.len
 refine bn0 Tryz.func113 Tryz.ntmps113 h fun w h=>?_
 refine jA h fun b1 w h=>?_
 refine st (ldr (cs:=[.int .i64 c.kind,.int .i64 c.trie.root,.bool c.trie.readOnly,.int .i64 c.a,.int .i64 c.b,.int .i64 c.n,.int .i64 c.index,.int .u64 ((c.hash : Nat) : Int),.int .u64 ((c.mask : Nat) : Int),.string c.key,.int .u64 ((c.value : Nat) : Int),.int .u64 ((c.expect : Nat) : Int),.int .i64 c.policy,.bool c.only,.bool c.walk.started,.slice none 0 0,.slice none 0 0,.int .i64 c.answer.err,.bool c.answer.found,.int .u64 ((c.answer.value : Nat) : Int),.string c.answer.key,.int .i64 c.answer.count,.int .i64 c.answer.ref,.int .i64 c.answer.trie.root,.bool c.answer.trie.readOnly]) rfl (h.xr 1 a1 fun _=>rfl) Row.h)<|go h fun w h=>?_
 refine jA h fun b2 w h=>?_
 refine j000 (refused_any c h.to (by omega)) fun w h=>?_
 refine qc h (fun hd3 w h=>?_) fun hd3 w h=>?_
 ·have hr0:=bne_iff_ne.1 hd3
  have hg4:=bne_iff_ne.1 hd3
  refine go h fun w h=>?_
  refine rr (resC rfl rfl (h.b a1) Row.h) ?_
  rw [Ct.callI_r hr0]; exact ⟨_,({ err:=Ct.refused c } : Ct.Result),Ct.rR,rfl,h.drop.drop,k.less (by omega)⟩
 ·have h0:=eq_of_bneF hd3
  have hg5:=eq_of_bneF hd3
  refine go h fun w h=>?_
  refine go h fun w h=>?_
  refine go h fun w h=>?_
  refine go h fun w h=>?_
  refine go h fun w h=>?_
  refine go h fun w h=>?_
  refine go h fun w h=>?_
  refine qc h (fun hd6 w h=>?_) fun hd6 w h=>?_
  ·have hg7:=eq_of_beq hd6
   refine go h fun w h=>?_
   refine j211 (find_any xb mb x c F h.to (k.less (by omega)) (by omega) (by omega) hm hky) fun y8 v9 q10 w h k=>?_
   obtain ⟨z11,rfl⟩:=Ct.keB q10
   have lq10:=Ct.leB q10
   refine go h fun w h=>?_
   refine rr (resC rfl rfl (h.b a2) Row.h) ?_
   rw [Ct.callI_7 h0 (by omega)]; exact ⟨_,v9,q10,rfl,(h.fr (.c r1 (.c r1 .n))).drop.drop,k.less (by omega)⟩
  ·have hg12:=ne_of_beq_false hd6
   refine go h fun w h=>?_
   refine qc h (fun hd13 w h=>?_) fun hd13 w h=>?_
   ·have hg14:=eq_of_beq hd13
    refine go h fun w h=>?_
    refine j211 (put_any _ _ _ c _ h.to (k.less (by omega)) hx hF hm (Ct.ref_key h0 (by omega))) fun y15 v16 q17 w h k=>?_
    obtain ⟨z18,rfl⟩:=Ct.keB q17
    have lq17:=Ct.leB q17
    refine go h fun w h=>?_
    refine rr (resC rfl rfl (h.b a2) Row.h) ?_
    rw [Ct.callI_8 h0 (by omega)]; exact ⟨_,v16,q17,rfl,(h.fr (.c r1 (.c r1 .n))).drop.drop,k.less (by omega)⟩
   ·have hg19:=ne_of_beq_false hd13
    refine go h fun w h=>?_
    refine qc h (fun hd20 w h=>?_) fun hd20 w h=>?_
    ·have hg21:=eq_of_beq hd20
     refine go h fun w h=>?_
     refine j211 (drop_any _ _ _ c _ h.to (k.less (by omega)) hx hF hm (Ct.ref_key h0 (by omega))) fun y22 v23 q24 w h k=>?_
     obtain ⟨z25,rfl⟩:=Ct.keB q24
     have lq24:=Ct.leB q24
     refine go h fun w h=>?_
     refine rr (resC rfl rfl (h.b a2) Row.h) ?_
     rw [Ct.callI_9 h0 (by omega)]; exact ⟨_,v23,q24,rfl,(h.fr (.c r1 (.c r1 .n))).drop.drop,k.less (by omega)⟩
    ·have hg26:=ne_of_beq_false hd20
     refine go h fun w h=>?_
     refine qc h (fun hd27 w h=>?_) fun hd27 w h=>?_
     ·have hg28:=eq_of_beq hd27
      refine go h fun w h=>?_
      refine j211 (snapshot_any _ _ _ c _ _ h.to (k.less (by omega)) hx) fun y29 v30 q31 w h k=>?_
      obtain ⟨z32,rfl⟩:=Ct.keB q31
      have lq31:=Ct.leB q31
      refine go h fun w h=>?_
      refine rr (resC rfl rfl (h.b a2) Row.h) ?_
      rw [show ((c.kind : Int)==11)=false from beq_eq_false_iff_ne.2 (by omega)] at q31
      rw [Ct.callI_10 h0 (by omega)]; exact ⟨_,v30,q31,rfl,(h.fr (.c r1 (.c r1 .n))).drop.drop,k⟩
     ·have hg33:=ne_of_beq_false hd27
      refine go h fun w h=>?_
      refine qc h (fun hd34 w h=>?_) fun hd34 w h=>?_
      ·have hg35:=eq_of_beq hd34
       refine go h fun w h=>?_
       refine j211 (snapshot_any _ _ _ c _ _ h.to (k.less (by omega)) hx) fun y36 v37 q38 w h k=>?_
       obtain ⟨z39,rfl⟩:=Ct.keB q38
       have lq38:=Ct.leB q38
       refine go h fun w h=>?_
       refine rr (resC rfl rfl (h.b a2) Row.h) ?_
       rw [show ((c.kind : Int)==11)=true from beq_iff_eq.2 (by omega)] at q38
       rw [Ct.callI_11 h0 (by omega)]; exact ⟨_,v37,q38,rfl,(h.fr (.c r1 (.c r1 .n))).drop.drop,k⟩
      ·have hg40:=ne_of_beq_false hd34
       refine go h fun w h=>?_
       refine go h fun w h=>?_
       refine j211 (clear_any _ _ _ c _ h.to (k.less (by omega)) hx) fun y41 v42 q43 w h k=>?_
       obtain ⟨z44,rfl⟩:=Ct.keB q43
       have lq43:=Ct.leB q43
       refine go h fun w h=>?_
       refine rr (resC rfl rfl (h.b a2) Row.h) ?_
       rw [Ct.callI_12 h0 (by omega)]; exact ⟨_,v42,q43,rfl,(h.fr (.c r1 (.c r1 .n))).drop.drop,k.less (by omega)⟩
section
attribute [local semireducible] Go.E.wpL Go.E.wpS Go.E.X Go.E.XS Go.E.C Go.E.thn Go.E.blk Go.E.fin Go.E.Y Go.E.U Go.E.F Go.E.Ca Go.E.Res Go.E.bl Go.E.rb Go.E.osl Go.E.rsl Go.E.ex Go.E.ce Go.E.pu Go.E.sK Go.E.gK Go.E.bK Go.E.zK Go.E.boxA Go.E.cloA Go.E.codeA
attribute [local irreducible] Go.E.wpL Go.E.wpS
variable {B w : World} {L : List As}
theorem repeat_any (xb mb : Nat) (x : Ct.X) (F free : Nat) (h : SH B w (XA xb mb x::L)) (k : Ct.Ok 60 (Ct.repeatX free x)) (hfr : free≤10) (hx : (Ct.repeatX free x).left<F) (hF : F≤100000000000) (hm : x.e.call.mask<18446744073709551616) (hky : x.e.call.key.size≤9223372036854775807) (hk7 : 7≤x.e.call.kind) (hk12 : x.e.call.kind≤12) :
  Calls Tryz.prog 58 #[.pointer (some ⟨xb,0,none⟩),.int .i64 ((free : Nat) : Int)] w fun e w'=>e=.returned (.tuple #[])∧SH B w' (XA xb mb (Ct.stepX (Ct.callI x.e.call F) free x)::L)∧Ct.Ok 50 (Ct.stepX (Ct.callI x.e.call F) free x):=by
 refine bgn (args:=[_,_]) Tryz.func58 rfl Tryz.ntmps58 rfl ?_
 refine sq<|?_
 obtain ⟨⟨pg,cg,pm,cm,pq,cq,pi,ci⟩,h⟩:=h.xo
 have h : SH B w (bl xb (exV mb x.e ⟨pg,cg,pm,cm,pq,cq,pi,ci⟩) 115::osl 36 1 (.slice pg x.e.got.length cg) x.e.got.length (x.e.got.map (Value.int .i64))::osl 36 1 (.slice pm x.e.made.length cm) x.e.made.length (x.e.made.map (Value.int .i64))::osl 33 1 (.slice pq x.e.cells.length cq) x.e.cells.length (x.e.cells.map (Value.int .i64))::osl 3 1 (.slice pi x.e.gens.length ci) x.e.gens.length (x.e.gens.map (Value.int .i64))::memA mb x.s::L):=h
 refine rg<|st (mv rfl)<|st (mv rfl)<|st (mv rfl)<|st (mv rfl)<|st (mv rfl)<|st (mv rfl)<|st (mv rfl)<|st (nc rfl rfl)<|st (fa fo_115_6 rfl)<|sf (so h rfl rfl rfl sz_3 rfl (.s (.s (.s (.s (.s (.s (.s (.s (.s (.s (.s (.s (.s (.s (.s (.s (.s (.s (.s (.s (.s (.s (.s (.s (.s (.s (.s (.s (.s (.s (.r .d))))))))))))))))))))))))))))))) u0)<|?_
 rintro _ w h
 refine st (nc rfl rfl)<|st (fa fo_115_7 rfl)<|sf (so h rfl rfl rfl sz_3 rfl (.s (.s (.s (.s (.s (.s (.s (.s (.s (.s (.s (.s (.s (.s (.s (.s (.s (.s (.s (.s (.s (.s (.s (.s (.s (.s (.s (.s (.s (.s (.s (.r .d)))))))))))))))))))))))))))))))) u0)<|?_
 rintro _ w h
 refine st (nc rfl rfl)<|st (fa fo_115_8 rfl)<|sf (so h rfl rfl rfl sz_3 rfl (.s (.s (.s (.s (.s (.s (.s (.s (.s (.s (.s (.s (.s (.s (.s (.s (.s (.s (.s (.s (.s (.s (.s (.s (.s (.s (.s (.s (.s (.s (.s (.s (.r .d))))))))))))))))))))))))))))))))) u0)<|?_
 rintro _ w h
 refine st (nc rfl rfl)<|st (fa fo_115_9 rfl)<|sf (so h rfl rfl rfl sz_3 rfl (.s (.s (.s (.s (.s (.s (.s (.s (.s (.s (.s (.s (.s (.s (.s (.s (.s (.s (.s (.s (.s (.s (.s (.s (.s (.s (.s (.s (.s (.s (.s (.s (.s (.r .d)))))))))))))))))))))))))))))))))) u0)<|?_
 rintro _ w h
 refine st (nc rfl rfl)<|st (fa fo_115_10 rfl)<|sf (so h rfl rfl rfl sz_3 rfl (.s (.s (.s (.s (.s (.s (.s (.s (.s (.s (.s (.s (.s (.s (.s (.s (.s (.s (.s (.s (.s (.s (.s (.s (.s (.s (.s (.s (.s (.s (.s (.s (.s (.s (.r .d))))))))))))))))))))))))))))))))))) u0)<|?_
 rintro _ w h
 refine st (nc rfl rfl)<|st (fa fo_115_11 rfl)<|sf (so h rfl rfl rfl sz_4 rfl (.s (.s (.s (.s (.s (.s (.s (.s (.s (.s (.s (.s (.s (.s (.s (.s (.s (.s (.s (.s (.s (.s (.s (.s (.s (.s (.s (.s (.s (.s (.s (.s (.s (.s (.s (.r .d)))))))))))))))))))))))))))))))))))) u0)<|?_
 rintro _ w h
 refine xe<|nx<|sq<|?_
 have h:=h.fr (.c r0 (.c r0 (.c r0 (.c r0 (.c r0 (.c r0 .n))))))
 have h : SH B w (XA xb mb (Ct.repeatX free x)::L):=SH.xi ⟨pg,cg,pm,cm,pq,cq,pi,ci⟩ h
 refine rg<|st (mv rfl)<|cl (ca en_113 rfl) ((run_any xb mb (Ct.repeatX free x) x.e.call F (h.fr (.c r0 .n)) k hx hF hm hky hk7 hk12).mono ?_)
 rintro _ w ⟨y1,v2,q3,rfl,h,k⟩
 refine ⟨_,rfl,?_⟩
 refine sf (al h zc_43)<|?_
 rintro _ w ⟨b4,rfl,h⟩
 refine sf (so h rfl rfl rfl sz_43 rfl (.r (.r (.r (.r (.r (.r (.r (.r .d)))))))) u0)<|?_
 rintro _ w h
 refine xe<|nx<|sq<|rg<|st (mv rfl)<|st (nc rfl rfl)<|st (fa fo_115_11 rfl)<|st (ld (v:=.bool y1.e.stopped) one_4 rfl (h.xc a1 fun _=>rfl))<|st (nt rfl)<|xe<|nx<|?_
 rcases Bool.eq_false_or_eq_true (!y1.e.stopped) with hd5 | hd5
 ·have hd6 : y1.e.stopped=false:=by simpa using hd5
  refine ct rfl hd5<|?_
  have h:=h.fr (.c r1 .n)
  obtain ⟨⟨pg,cg,pm,cm,pq,cq,pi,ci⟩,h⟩:=h.xo
  have h : SH B w (bl xb (exV mb y1.e ⟨pg,cg,pm,cm,pq,cq,pi,ci⟩) 115::osl 36 1 (.slice pg y1.e.got.length cg) y1.e.got.length (y1.e.got.map (Value.int .i64))::osl 36 1 (.slice pm y1.e.made.length cm) y1.e.made.length (y1.e.made.map (Value.int .i64))::osl 33 1 (.slice pq y1.e.cells.length cq) y1.e.cells.length (y1.e.cells.map (Value.int .i64))::osl 3 1 (.slice pi y1.e.gens.length ci) y1.e.gens.length (y1.e.gens.map (Value.int .i64))::memA mb y1.s::bl b4 (resV v2) 43::L):=h
  refine drH [1,3,5,7,9,10,13,15,16] (by kernel_rfl) h (.c r6 .n) fun w h=>tk (fun W H=>mv rfl)<|tk (fun W H=>mv rfl)<|tk (fun W H=>ldr rfl (rows_all (H.b a0)) row_43)<|tk (fun W H=>nc rfl rfl)<|tk (fun W H=>fa fo_115_13 rfl)<|ff (so h rfl rfl rfl sz_4 rfl (.s (.s (.s (.s (.s (.s (.s (.s (.s (.s (.s (.s (.s (.s (.s (.s (.s (.s (.s (.s (.s (.s (.s (.s (.s (.s (.s (.s (.s (.s (.s (.s (.s (.s (.s (.s (.s (.s (.s (.s (.r .d))))))))))))))))))))))))))))))))))))))))) u0)<|?_
  rintro _ w h
  refine ⟨h.hs (.c r6 .n),?_⟩
  refine tk (fun W H=>nc rfl rfl)<|tk (fun W H=>fa fo_115_14 rfl)<|ff (so h rfl rfl rfl sz_43 rfl (.s (.s (.s (.s (.s (.s (.s (.s (.s (.s (.s (.s (.s (.s (.s (.s (.s (.s (.s (.s (.s (.s (.s (.s (.s (.s (.s (.s (.s (.s (.s (.s (.s (.s (.s (.s (.s (.s (.s (.s (.s (.r (.r (.r (.r (.r (.r (.r (.r .d))))))))))))))))))))))))))))))))))))))))))))))))) u0)<|?_
  rintro _ w h
  refine ⟨h.hs (.c r6 .n),?_⟩
  refine xz<|?_
  refine rn (res0 Tryz.results58)<|?_
  rw [Ct.stepX_n (x:=x) (free:=free) q3 hd6]; exact ⟨rfl,SH.xi ⟨pg,cg,pm,cm,pq,cq,pi,ci⟩ ((h.fr (.c r6 .n)).drop),k.ended true _⟩
 ·have hd7 : y1.e.stopped=true:=by simpa using hd5
  refine cf rfl hd5<|sk<|?_
  refine rn (res0 Tryz.results58)<|?_
  rw [Ct.stepX_s (x:=x) (free:=free) q3 hd7]; exact ⟨rfl,h.drop,k⟩
end
variable {B w : World} {L : List As}
theorem step_n (xb mb : Nat) (x : Ct.X) (F : Nat) (h : SH B w (XA xb mb x::L)) (hd : x.e.done=false) (k : Ct.Ok 60 (Ct.repeatX 1 x)) (hx : (Ct.repeatX 1 x).left<F) (hF : F≤100000000000) (hm : x.e.call.mask<18446744073709551616) (hky : x.e.call.key.size≤9223372036854775807) (hk7 : 7≤x.e.call.kind) (hk12 : x.e.call.kind≤12) :
  Calls Tryz.prog 48 #[.pointer (some ⟨xb,0,none⟩)] w fun e w'=>e=.returned (.tuple #[])∧SH B w' (XA xb mb (Ct.stepX (Ct.callI x.e.call F) 1 x)::L)∧Ct.Ok 50 (Ct.stepX (Ct.callI x.e.call F) 1 x):=by
 refine bn0 Tryz.func48 Tryz.ntmps48 h fun w h=>?_
 refine st (ld (v:=.bool x.e.done) One.h rfl (h.xc a0 fun _=>rfl))<|go h fun w h=>?_
 refine j001 (repeat_any _ _ _ _ _ h.to k (by decide) hx hF hm hky hk7 hk12) fun w h k=>?_
 refine rn (res0 Tryz.results48)<|go h fun w h=>?_
 refine ⟨rfl,h,k⟩
theorem step_d (xb mb : Nat) (x : Ct.X) (h : SH B w (XA xb mb x::L)) (hd : x.e.done=true) :
  Calls Tryz.prog 48 #[.pointer (some ⟨xb,0,none⟩)] w fun e w'=>e=.returned (.tuple #[])∧SH B w' (XA xb mb x::L):=by
 refine bn0 Tryz.func48 Tryz.ntmps48 h fun w h=>?_
 refine st (ld (v:=.bool x.e.done) One.h rfl (h.xc a0 fun _=>rfl))<|go h fun w h=>?_
 refine rn (res0 Tryz.results48)<|go h fun w h=>?_
 refine ⟨rfl,h⟩
theorem done_any (xb mb : Nat) (x : Ct.X) (h : SH B w (XA xb mb x::L)) :
  Calls Tryz.prog 51 #[.pointer (some ⟨xb,0,none⟩)] w fun e w'=>e=.returned (.bool x.e.done)∧SH B w' (XA xb mb x::L):=by
 refine bn0 Tryz.func51 Tryz.ntmps51 h fun w h=>?_
 refine st (ld (v:=.bool x.e.done) One.h rfl (h.xc a0 fun _=>rfl))<|go h fun w h=>?_
 exact rz ⟨rfl,h⟩
theorem result_any (xb mb : Nat) (x : Ct.X) (h : SH B w (XA xb mb x::L)) :
  Calls Tryz.prog 104 #[.pointer (some ⟨xb,0,none⟩)] w fun e w'=>e=.returned (.agg (resV x.e.result).toArray)∧SH B w' (XA xb mb x::L):=by
 refine bn0 Tryz.func104 Tryz.ntmps104 h fun w h=>?_
 refine jA h fun b1 w h=>?_
 refine st (ldr (cs:=[.int .i64 x.e.result.err,.bool x.e.result.found,.int .u64 ((x.e.result.value : Nat) : Int),.string x.e.result.key,.int .i64 x.e.result.count,.int .i64 x.e.result.ref,.int .i64 x.e.result.trie.root,.bool x.e.result.trie.readOnly]) rfl (h.xr 41 a1 fun _=>rfl) Row.h)<|go h fun w h=>?_
 exact rr (resC rfl rfl (h.b a0) Row.h)<|⟨rfl,h.drop⟩
theorem steps_any (xb mb : Nat) (x : Ct.X) (h : SH B w (XA xb mb x::L)) :
  Calls Tryz.prog 101 #[.pointer (some ⟨xb,0,none⟩)] w fun e w'=>e=.returned (.int .i64 ((x.e.got.length : Nat) : Int))∧SH B w' (XA xb mb x::L):=by
 refine bn0 Tryz.func101 Tryz.ntmps101 h fun w h=>?_
 obtain ⟨⟨pg,cg,pm,cm,pq,cq,pi,ci⟩,h⟩:=h.xo
 have h : SH B w (bl xb (exV mb x.e ⟨pg,cg,pm,cm,pq,cq,pi,ci⟩) 115::osl 36 1 (.slice pg x.e.got.length cg) x.e.got.length (x.e.got.map (Value.int .i64))::osl 36 1 (.slice pm x.e.made.length cm) x.e.made.length (x.e.made.map (Value.int .i64))::osl 33 1 (.slice pq x.e.cells.length cq) x.e.cells.length (x.e.cells.map (Value.int .i64))::osl 3 1 (.slice pi x.e.gens.length ci) x.e.gens.length (x.e.gens.map (Value.int .i64))::memA mb x.s::L):=h
 refine go h fun w h=>?_
 exact rz ⟨rfl,SH.xi ⟨pg,cg,pm,cm,pq,cq,pi,ci⟩ (h)⟩
theorem next_d (xb mb : Nat) (x : Ct.X) (h : SH B w (XA xb mb x::L)) (hd : x.e.done=true) :
  Calls Tryz.prog 103 #[.pointer (some ⟨xb,0,none⟩)] w fun e w'=>e=.returned (.tuple #[.agg (accV {}).toArray,.bool false])∧SH B w' (XA xb mb x::L):=by
 refine bn0 Tryz.func103 Tryz.ntmps103 h fun w h=>?_
 refine jA h fun b1 w h=>?_
 refine st (ld (v:=.bool x.e.done) One.h rfl (h.xc a1 fun _=>rfl))<|go h fun w h=>?_
 exact rr (resCt rfl rfl (h.b a0) Row.h rfl)<|⟨rfl,h.drop⟩
theorem next_n (xb mb : Nat) (x : Ct.X) (h : SH B w (XA xb mb x::L)) (hd : x.e.done=false) :
  Calls Tryz.prog 103 #[.pointer (some ⟨xb,0,none⟩)] w fun e w'=>e=.returned (.tuple #[.agg (accV x.e.next).toArray,.bool true])∧SH B w' (XA xb mb x::L):=by
 refine bn0 Tryz.func103 Tryz.ntmps103 h fun w h=>?_
 refine jA h fun b1 w h=>?_
 refine st (ld (v:=.bool x.e.done) One.h rfl (h.xc a1 fun _=>rfl))<|go h fun w h=>?_
 refine st (ldr (cs:=[.int .i64 x.e.next.kind,.int .i64 x.e.next.cell,.int .i64 x.e.next.old,.int .i64 x.e.next.new]) rfl (h.xr 36 a1 fun _=>rfl) Row.h)<|go h fun w h=>?_
 exact rr (resCt rfl rfl (h.b a0) Row.h rfl)<|⟨rfl,h.drop⟩
end Go.Proofs.YtmliojdkmfhmmaaGreat
end
section
namespace Go.Proofs.YtmliojdkmfhmmaaGreat
attribute [local irreducible] Go.E.wpL Go.E.wpS Go.E.X Go.E.XS Go.E.C Go.E.thn Go.E.blk Go.E.fin Go.E.Y Go.E.U Go.E.F Go.E.Ca Go.E.Res Go.E.bl Go.E.rb Go.E.osl Go.E.rsl Go.E.ex Go.E.ce Go.E.pu Go.E.sK Go.E.gK Go.E.bK Go.E.zK Go.E.boxA Go.E.cloA Go.E.codeA
open Go.RowKit Go.E
def Mod (v m : Int) : Int:=v % 18446744073709551616 % m
theorem Mod_lt (v m : Int) (h : 0<m) : 0≤Mod v m∧Mod v m<m :=⟨Int.emod_nonneg _ (by omega),Int.emod_lt_of_pos _ h⟩
theorem wrapu (v : Int) : IntKind.u64.wrap v=v % 18446744073709551616:=by rw [IntKind.wrap_u64]
theorem wrapm {m : Int} (h0 : 0<m) (h1 : m≤9223372036854775807) : IntKind.u64.wrap m=m:=by rw [IntKind.wrap_u64]; omega
theorem modT (v m : Int) (h0 : 0<m) : (v % 18446744073709551616).tmod m=Mod v m:=by
 unfold Mod; rw [Int.tmod_eq_emod_of_nonneg (by omega)]
def tapeA (b : Nat) (l : List Int) (i : Nat) : As:=ex fun pc : Option Addr × Nat=>se [bl b [.slice pc.1 l.length pc.2,.int .i64 ((i : Nat) : Int)] 98,rsl 1 (.slice pc.1 l.length pc.2) l.length (l.map (Value.int .i64))]
def nextV (l : List Int) (i : Nat) (n : Int) : Int:=if i<l.length then Mod (l.getD i 0) n else 0
def nextI (l : List Int) (i : Nat) : Nat:=if i<l.length then i+1 else i
theorem nextV_lt (l : List Int) (i : Nat) {n : Int} (h : 0<n) : 0≤nextV l i n∧nextV l i n<n:=by
 unfold nextV; split
 ·exact Mod_lt _ _ h
 ·omega
section
attribute [local semireducible] Go.E.wpL Go.E.wpS Go.E.X Go.E.XS Go.E.C Go.E.thn Go.E.blk Go.E.fin Go.E.Y Go.E.U Go.E.F Go.E.Ca Go.E.Res Go.E.bl Go.E.rb Go.E.osl Go.E.rsl Go.E.ex Go.E.ce Go.E.pu Go.E.sK Go.E.gK Go.E.bK Go.E.zK Go.E.boxA Go.E.cloA Go.E.codeA
attribute [local irreducible] Go.E.wpL Go.E.wpS
theorem Mod_any {w : World} (v m : Int) (h0 : 0<m) (h1 : m≤9223372036854775807) :
  Calls Tryz.prog 96 #[.int .i64 v,.int .i64 m] w fun e w'=>e=.returned (.int .i64 (Mod v m))∧w'=w:=by
 refine bgn (args:=[_,_]) Tryz.func96 rfl Tryz.ntmps96 rfl ?_
 refine sq<|rg<|st (sg rfl)<|xe<|nx<|sq<|rg<|st (mv rfl)<|st (cvw un_3 un_28 rfl (wrapu v))<|st (mv rfl)<|st (cvw un_3 un_28 rfl (wrapm h0 h1))<|st (brw rfl rfl (by omega) (modT v m h0))<|st (cvw un_28 un_3 rfl (w64 (by have:=Mod_lt v m h0; omega) (by have:=Mod_lt v m h0; omega)))<|st (sg rfl)<|xe<|nx<|rt<|?_
 refine rr (res1 Tryz.results96 rfl)<|⟨rfl,rfl⟩
end
variable {B w : World} {L : List As}
theorem Next_any (b : Nat) (l : List Int) (i : Nat) (n : Int) (h : SH B w (tapeA b l i::L)) (h0 : 0<n) (h1 : n≤9223372036854775807) :
  Calls Tryz.prog 46 #[.pointer (some ⟨b,0,none⟩),.int .i64 n] w fun e w'=>e=.returned (.int .i64 (nextV l i n))∧SH B w' (tapeA b l (nextI l i)::L):=by
 obtain ⟨⟨p,c⟩,h⟩:=h.ex
 have h:=h.se
 have hlm:=(h.rl a1).2
 unfold maxLen at hlm
 refine bn0 Tryz.func46 Tryz.ntmps46 h fun w h=>?_
 refine drH [1,3,5,7,9,11,13,15,17,19] (by kernel_rfl) h (.c r0 .n) fun w h=>go h fun w h=>?_
 refine qc h (fun hd1 w h=>?_) fun hd1 w h=>?_
 have hg2:=of_decide_eq_true hd1
 refine go h fun w h=>?_
 exact rz ⟨by rw [nextV,if_neg (by omega)],by rw [nextI,if_neg (by omega)]; exact SH.in_ (_,_) (SH.is (l:=[_,_]) (h))⟩
 have hg3:=of_decide_eq_false hd1
 refine go h fun w h=>?_
 obtain ⟨b4,o5,rfl⟩:=h.fq a1 (by omega)
 refine drH [1,3,5,7,9,11,13,15,17,19,21,23,24,26] (by kernel_rfl) h (.c r0 (.c r0 .n)) fun w h=>go h fun w h=>?_
 refine tk (fun W H=>bs ((i : Nat) : Int))<|go h fun w h=>?_
 refine sW h (Mod_any _ _ h0 h1) fun w h=>?_
 exact rz ⟨by rw [nextV,if_pos (by omega)],by rw [nextI,if_pos (by omega)]; exact SH.in_ (_,_) (SH.is (l:=[_,_]) (h))⟩
theorem Left_any (b : Nat) (l : List Int) (i : Nat) (h : SH B w (tapeA b l i::L)) :
  Calls Tryz.prog 45 #[.pointer (some ⟨b,0,none⟩)] w fun e w'=>e=.returned (.bool (decide ((i : Int)<l.length)))∧SH B w' (tapeA b l i::L):=by
 obtain ⟨⟨p,c⟩,h⟩:=h.ex
 have h:=h.se
 have hlm:=(h.rl a1).2
 unfold maxLen at hlm
 refine bn0 Tryz.func45 Tryz.ntmps45 h fun w h=>?_
 refine drH [1,3,5,7,9,11,13,15,17,19,20] (by kernel_rfl) h (.c r0 .n) fun w h=>go h fun w h=>?_
 exact rz ⟨rfl,SH.in_ (_,_) (SH.is (l:=[_,_]) (h))⟩
theorem New_any (l : List Int) (p : Option Addr) (c : Nat) (h : SH B w (rsl 1 (.slice p l.length c) l.length (l.map (Value.int .i64))::L)) :
  Calls Tryz.prog 14 #[.slice p l.length c] w fun e w'=>∃ b,e=.returned (.pointer (some ⟨b,0,none⟩))∧SH B w' (tapeA b l 0::L):=by
 refine bn0 Tryz.func14 Tryz.ntmps14 h fun w h=>?_
 refine jX h fun b1 w h=>?_
 exact rz ⟨_,rfl,SH.in_ (p,c) (SH.is (l:=[_,_]) (h))⟩
end Go.Proofs.YtmliojdkmfhmmaaGreat
end
