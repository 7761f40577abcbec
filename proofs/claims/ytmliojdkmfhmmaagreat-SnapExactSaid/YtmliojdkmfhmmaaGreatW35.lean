/- Parts of a proof: Q4. -/
import Derived.Test.YtmliojdkmfhmmaaGreatW09
import Derived.Test.YtmliojdkmfhmmaaGreatW32
import Derived.Test.YtmliojdkmfhmmaaGreatW20
import Derived.Test.YtmliojdkmfhmmaaGreatW24
import Derived.Test.YtmliojdkmfhmmaaGreatW04
import Derived.Test.YtmliojdkmfhmmaaGreatW34
import Derived.Test.YtmliojdkmfhmmaaGreatW16
set_option linter.unusedVariables false
set_option linter.unusedSimpArgs false
set_option maxRecDepth 100000
set_option maxHeartbeats 4000000
section
namespace Go.Proofs.YtmliojdkmfhmmaaGreat
attribute [local irreducible] Go.E.wpL Go.E.wpS Go.E.X Go.E.XS Go.E.C Go.E.thn Go.E.blk Go.E.fin Go.E.Y Go.E.U Go.E.F Go.E.Ca Go.E.Res Go.E.bl Go.E.rb Go.E.osl Go.E.rsl Go.E.ex Go.E.ce Go.E.pu Go.E.sK Go.E.gK Go.E.bK Go.E.zK
open Go.RowKit Go.E Go.Ct
variable {B w : World} {L : List As}
theorem putLeaf_any (xb mb : Nat) (x : Ct.X) (c : Ct.Call) (i m : Int) (ha : Nat) (lv gen : Int) (h : SH B w (XA xb mb (Ct.X.of c x)::L)) (k : Ct.Ok 60 (Ct.X.of c x)) (hh : ha<18446744073709551616) (hky : c.key.size≤64) (hl : 0≤lv) (hl2 : lv≤900000000000) :
  Calls Tryz.prog 224 #[.pointer (some ⟨xb,0,none⟩),.int .i64 i,.int .i64 m,.int .u64 ((ha : Nat) : Int),.int .i64 lv,.int .i64 gen] w fun e w'=>∃ y v,Ct.runI (Ct.putLeafI c i m ha lv gen) (Ct.X.of c x)=Ct.out y v∧e=.returned (.tuple #[.agg (resV v.1).toArray,.int .i64 v.2])∧SH B w' (XA xb mb y::L)∧Ct.Ok 60 y:=by
 have hlen:=k.len
 refine bn0 Tryz.func224 Tryz.ntmps224 h fun w h=>?_
 refine jA h fun b1 w h=>?_
 refine drH [1,3,5,7,9,11,13,15,17,19,21,23,25,27,29,30,32,34,36] (by kernel_rfl) h (.c r1 .n) fun w h=>go h fun w h=>?_
 refine tk (fun W H=>ldr (cs:=trieC c.trie) rfl (H.xr 2 a0 fun _=>rfl) Row.h)<|go h fun w h=>?_
 refine tk (fun W H=>ld (v:=.string c.key) One.h rfl (H.xc a0 fun _=>rfl))<|go h fun w h=>?_
 refine tk (fun W H=>ld (v:=.int .u64 ((c.value : Nat) : Int)) One.h rfl (H.xc a0 fun _=>rfl))<|go h fun w h=>?_
 refine jB h fun b2 w h=>?_
 refine j100 (xnode_any xb mb (Ct.X.of c x) m h.to k.big') fun p3 w h=>?_
 have f4:=k.fitN m
 have bf4:=k.len
 refine go h fun w h=>?_
 refine jA h fun b5 w h=>?_
 refine qc h (fun hd6 w h=>?_) fun hd6 w h=>?_
 have hg7:=eq_of_beq hd6
 refine go h fun w h=>?_
 have h:=h.fr (.c r1 .n)
 have h:=SH.se (l:=[branchR ((Ct.X.of c x).node m) p3,pairR ((Ct.X.of c x).node m) p3]) h
 have hpv:=(Ct.valid_vf (((Ct.Node.Fit.nf f4 (by omega))).v6 (eq_of_beq hd6))).sorted (eq_of_beq hd6)
 have hpl:=((Ct.Node.Fit.nf f4 (by omega))).pr
 refine go h fun w h=>?_
 refine j000 (rfind_any ((Ct.X.of c x).node m).pairs _ _ c.key h.to hpv (by omega)) fun w h=>?_
 have h:=SH.is (l:=[branchR ((Ct.X.of c x).node m) p3,pairR ((Ct.X.of c x).node m) p3]) (h.fr (.c r1 (.c r0 .n)))
 refine go h fun w h=>?_
 refine j000 (permits_any xb mb x c (Ct.pfind ((Ct.X.of c x).node m).pairs c.key).2 (Ct.pfind ((Ct.X.of c x).node m).pairs c.key).1 h.to) fun w h=>?_
 refine qc h (fun hd8 w h=>?_) fun hd8 w h=>?_
 have hd9 : (Ct.permitsC c (Ct.pfind ((Ct.X.of c x).node m).pairs c.key).2 (Ct.pfind ((Ct.X.of c x).node m).pairs c.key).1)=false:=by simpa using hd8
 refine go h fun w h=>?_
 refine j000 (value_any (Ct.pfind ((Ct.X.of c x).node m).pairs c.key).2 (Ct.pfind ((Ct.X.of c x).node m).pairs c.key).1 h.to) fun w h=>?_
 exact rr (resCt rfl rfl (h.b a4) Row.h rfl)<|⟨_,(Ct.valueR (Ct.pfind ((Ct.X.of c x).node m).pairs c.key).2 (Ct.pfind ((Ct.X.of c x).node m).pairs c.key).1,1),Ct.rN<|Ct.rT hd6<|Ct.rnF hd9<|Ct.rR,rfl,h.to,k⟩
 have hd10 : (Ct.permitsC c (Ct.pfind ((Ct.X.of c x).node m).pairs c.key).2 (Ct.pfind ((Ct.X.of c x).node m).pairs c.key).1)=true:=by simpa using hd8
 refine go h fun w h=>?_
 refine j100 (rgrown_any ((Ct.X.of c x).node m) p3 c.key c.value h.to (Ct.Node.Fit.nf f4 (by omega))) fun q11 w h=>?_
 refine jA h fun b12 w h=>?_
 refine drH [1,3,5,7,9,11,13,15,21,23,16,18,24,27,29,30,32] (by kernel_rfl) h (.c r5 (.c r0 .n)) fun w h=>go h fun w h=>?_
 refine s211 (alloc_x (j:=59) xb mb (Ct.X.of c x) (Ct.grown ((Ct.X.of c x).node m) c.key c.value).1 q11 m ((SH.duN h.to .z).fr (.c r0 (.c r1 .n))) (k.less (by omega)) ((Ct.fit_grown f4 c.key c.value).mono (by omega))) fun y13 v14 q15 w h ⟨k,hly13⟩=>?_
 obtain ⟨z16,rfl⟩:=Ct.keA q15
 have lq15:=Ct.leA q15
 refine go h fun w h=>?_
 refine s211 (gcas_any xb mb (Ct.X.of c z16) c.trie i m v14 h.to (k.less (by omega))) fun y17 v18 q19 w h k=>?_
 obtain ⟨z20,rfl⟩:=Ct.keB q19
 have lq19:=Ct.leB q19
 refine go h fun w h=>?_
 refine s000 (swapped_any _ v18 (Ct.pfind ((Ct.X.of c x).node m).pairs c.key).2 (Ct.pfind ((Ct.X.of c x).node m).pairs c.key).1 h.to) fun w h=>?_
 exact rr (resCt rfl rfl (h.b a6) Row.h rfl)<|⟨_,(Ct.swappedR (Ct.pfind ((Ct.X.of c x).node m).pairs c.key).2 (Ct.pfind ((Ct.X.of c x).node m).pairs c.key).1,(bif v18 then 1 else 0)),Ct.rN<|Ct.rT hd6<|Ct.rnT hd10<|Ct.rA q15<|Ct.rB q19<|Ct.rR,rfl,h.to,k⟩
 have hg21:=ne_of_beq_false hd6
 refine go h fun w h=>?_
 refine cl (ca en_181 rfl) ((rslice_any ha lv _ (by omega)).mono ?_)
 rintro _ _ ⟨rfl,rfl⟩
 refine ⟨_,rfl,?_⟩
 refine st (sg rfl)<|xe<|nx<|sq<|rg<|st (mv rfl)<|st (mv rfl)<|st (mv rfl)<|st (bd [.int .i64 4,.int .i64 0,.int .i64 0,.int .u64 0,.slice none 0 0,.int .u64 ((ha : Nat) : Int),.string c.key,.int .u64 ((c.value : Nat) : Int),.slice none 0 0,.int .i64 0,.int .i64 0,.int .i64 0,.int .i64 0,.int .i64 0] bd_77 rfl (by kernel_rfl))<|?_
 refine go h fun w h=>?_
 refine jA h fun b22 w h=>?_
 refine j000 (rlookup_any ((Ct.X.of c x).node m) p3.pb p3.cb p3.pp p3.cp (Ct.slice ha lv) h.to (Ct.Node.Fit.nf f4 (by omega))) fun w h=>?_
 refine qg h (fun hd23 w h=>?_) fun hd23 w h=>?_
 refine j100 (xnode_any xb mb (Ct.X.of c x) (Ct.blookup ((Ct.X.of c x).node m) (Ct.slice ha lv)).1 h.to k.big') fun p24 w h=>?_
 have f25:=k.fitN (Ct.blookup ((Ct.X.of c x).node m) (Ct.slice ha lv)).1
 have bf25:=k.len
 refine go h fun w h=>?_
 refine qc h (fun hd26 w h=>?_) fun hd26 w h=>?_
 have hg27:=eq_of_beq hd26
 refine go h fun w h=>?_
 exact rr (resCt rfl rfl (h.b a6) Row.h rfl)<|⟨_,({},2),Ct.rN<|Ct.rF hd6<|Ct.rN<|Ct.rT (by rw [hd23,hd26]; rfl)<|Ct.rR,rfl,h.to,k⟩
 have hg28:=ne_of_beq_false hd26
 refine go h fun w h=>?_
 refine j100 (xnode_any xb mb (Ct.X.of c x) (Ct.blookup ((Ct.X.of c x).node m) (Ct.slice ha lv)).1 h.to k.big') fun p29 w h=>?_
 have f30:=k.fitN (Ct.blookup ((Ct.X.of c x).node m) (Ct.slice ha lv)).1
 have bf30:=k.len
 refine go h fun w h=>?_
 refine j100 (xnode_any xb mb (Ct.X.of c x) (Ct.blookup ((Ct.X.of c x).node m) (Ct.slice ha lv)).1 h.to k.big') fun p31 w h=>?_
 have f32:=k.fitN (Ct.blookup ((Ct.X.of c x).node m) (Ct.slice ha lv)).1
 have bf32:=k.len
 refine go h fun w h=>?_
 refine qc h (fun hd33 w h=>?_) fun hd33 w h=>?_
 have hd34 : (((Ct.X.of c x).node (Ct.blookup ((Ct.X.of c x).node m) (Ct.slice ha lv)).1).key.toList==c.key.toList)=false:=by simpa using hd33
 refine go h fun w h=>?_
 refine j000 (permits_any xb mb x c (((Ct.X.of c x).node (Ct.blookup ((Ct.X.of c x).node m) (Ct.slice ha lv)).1).key.toList==c.key.toList) 0 h.to) fun w h=>?_
 refine qc h (fun hd35 w h=>?_) fun hd35 w h=>?_
 have hd36 : (Ct.permitsC c (((Ct.X.of c x).node (Ct.blookup ((Ct.X.of c x).node m) (Ct.slice ha lv)).1).key.toList==c.key.toList) 0)=false:=by simpa using hd35
 refine go h fun w h=>?_
 refine j000 (value_any (((Ct.X.of c x).node (Ct.blookup ((Ct.X.of c x).node m) (Ct.slice ha lv)).1).key.toList==c.key.toList) 0 h.to) fun w h=>?_
 exact rr (resCt rfl rfl (h.b a8) Row.h rfl)<|⟨_,(Ct.valueR false 0,1),Ct.rN<|Ct.rF hd6<|Ct.rN<|Ct.rF (by rw [hd23,hd26]; rfl)<|Ct.rF (by rw [hd23]; exact hd34)<|Ct.rnF (by simpa only [hd34] using hd36)<|Ct.rR,(by rw [hd34]; first | done | rfl),h.to,k⟩
 have hd37 : (Ct.permitsC c (((Ct.X.of c x).node (Ct.blookup ((Ct.X.of c x).node m) (Ct.slice ha lv)).1).key.toList==c.key.toList) 0)=true:=by simpa using hd35
 refine go h fun w h=>?_
 refine st (ba (lv+1))<|go h fun w h=>?_
 refine j211 (dual_any xb mb x c (Ct.blookup ((Ct.X.of c x).node m) (Ct.slice ha lv)).1 ha (lv+1) gen h.to (k.less (by omega)) hh hky (Ct.blookup_pos hd23) (by omega) (by omega) hd34) fun y38 v39 q40 w h k=>?_
 obtain ⟨z41,rfl⟩:=Ct.keB q40
 have lq40:=Ct.leB q40
 refine go h fun w h=>?_
 refine j211 (alloc_x (j:=35) xb mb (Ct.X.of c z41) ({ kind:=2,gen:=gen }) {} v39 (SH.nilN ({ kind:=2,gen:=gen }) rfl rfl h.to) (k.less (by omega)) (Ct.fit_small _ 2 gen 0 0 0)) fun y42 v43 q44 w h ⟨k,hly42⟩=>?_
 obtain ⟨z45,rfl⟩:=Ct.keA q44
 have lq44:=Ct.leA q44
 refine go h fun w h=>?_
 refine drH [1,3,5,7,9,11,13,15,17,18,20,22,25,27,28,30] (by kernel_rfl) h (.c r7 .n) fun w h=>go h fun w h=>?_
 refine s211 (replace_any (j:=34) xb mb (Ct.X.of c z45) m (Ct.slice ha lv) v43 h.to (k.less (by omega))) fun y46 v47 q48 w h k=>?_
 obtain ⟨z49,rfl⟩:=Ct.keB q48
 have lq48:=Ct.leB q48
 refine go h fun w h=>?_
 refine s211 (gcas_any xb mb (Ct.X.of c z49) c.trie i m v47 h.to (k.less (by omega))) fun y50 v51 q52 w h k=>?_
 obtain ⟨z53,rfl⟩:=Ct.keB q52
 have lq52:=Ct.leB q52
 refine go h fun w h=>?_
 refine s000 (swapped_any _ v51 false 0 h.to) fun w h=>?_
 exact rr (resCt rfl rfl (h.b a8) Row.h rfl)<|⟨_,(Ct.swappedR false 0,(bif v51 then 1 else 0)),Ct.rN<|Ct.rF hd6<|Ct.rN<|Ct.rF (by rw [hd23,hd26]; rfl)<|Ct.rF (by rw [hd23]; exact hd34)<|Ct.rnT (by simpa only [hd34] using hd37)<|Ct.rnT hd23<|Ct.rB q40<|Ct.rA q44<|Ct.rB q48<|Ct.rB q52<|Ct.rR,rfl,h.to,k⟩
 have hd54 : (((Ct.X.of c x).node (Ct.blookup ((Ct.X.of c x).node m) (Ct.slice ha lv)).1).key.toList==c.key.toList)=true:=by simpa using hd33
 refine go h fun w h=>?_
 refine j000 (permits_any xb mb x c (((Ct.X.of c x).node (Ct.blookup ((Ct.X.of c x).node m) (Ct.slice ha lv)).1).key.toList==c.key.toList) ((Ct.X.of c x).node (Ct.blookup ((Ct.X.of c x).node m) (Ct.slice ha lv)).1).value h.to) fun w h=>?_
 refine qc h (fun hd55 w h=>?_) fun hd55 w h=>?_
 have hd56 : (Ct.permitsC c (((Ct.X.of c x).node (Ct.blookup ((Ct.X.of c x).node m) (Ct.slice ha lv)).1).key.toList==c.key.toList) ((Ct.X.of c x).node (Ct.blookup ((Ct.X.of c x).node m) (Ct.slice ha lv)).1).value)=false:=by simpa using hd55
 refine go h fun w h=>?_
 refine j000 (value_any (((Ct.X.of c x).node (Ct.blookup ((Ct.X.of c x).node m) (Ct.slice ha lv)).1).key.toList==c.key.toList) ((Ct.X.of c x).node (Ct.blookup ((Ct.X.of c x).node m) (Ct.slice ha lv)).1).value h.to) fun w h=>?_
 exact rr (resCt rfl rfl (h.b a8) Row.h rfl)<|⟨_,(Ct.valueR true ((Ct.X.of c x).node (Ct.blookup ((Ct.X.of c x).node m) (Ct.slice ha lv)).1).value,1),Ct.rN<|Ct.rF hd6<|Ct.rN<|Ct.rF (by rw [hd23,hd26]; rfl)<|Ct.rT (by rw [hd23]; exact hd54)<|Ct.rnF (by simpa only [hd54] using hd56)<|Ct.rR,(by rw [hd54]; first | done | rfl),h.to,k⟩
 have hd57 : (Ct.permitsC c (((Ct.X.of c x).node (Ct.blookup ((Ct.X.of c x).node m) (Ct.slice ha lv)).1).key.toList==c.key.toList) ((Ct.X.of c x).node (Ct.blookup ((Ct.X.of c x).node m) (Ct.slice ha lv)).1).value)=true:=by simpa using hd55
 refine go h fun w h=>?_
 refine drH [1,3,5,7,9,11,13,15,17,19,27,20,22,24,28,31,33,34,36] (by kernel_rfl) h (.c r7 (.c r5 .n)) fun w h=>go h fun w h=>?_
 refine s211 (alloc_x (j:=59) xb mb (Ct.X.of c x) ({ kind:=4,hash:=ha,key:=c.key,value:=c.value }) {} 0 (SH.nilN ({ kind:=4,hash:=ha,key:=c.key,value:=c.value }) rfl rfl h.to) (k.less (by omega)) (Ct.fit_key _ 4 _ _ _ (by decide) hh hky)) fun y58 v59 q60 w h ⟨k,hly58⟩=>?_
 obtain ⟨z61,rfl⟩:=Ct.keA q60
 have lq60:=Ct.leA q60
 refine go h fun w h=>?_
 refine s211 (replace_any (j:=58) xb mb (Ct.X.of c z61) m (Ct.slice ha lv) v59 h.to (k.less (by omega))) fun y62 v63 q64 w h k=>?_
 obtain ⟨z65,rfl⟩:=Ct.keB q64
 have lq64:=Ct.leB q64
 refine go h fun w h=>?_
 refine s211 (gcas_any xb mb (Ct.X.of c z65) c.trie i m v63 h.to (k.less (by omega))) fun y66 v67 q68 w h k=>?_
 obtain ⟨z69,rfl⟩:=Ct.keB q68
 have lq68:=Ct.leB q68
 refine go h fun w h=>?_
 refine s000 (swapped_any _ v67 true ((Ct.X.of c x).node (Ct.blookup ((Ct.X.of c x).node m) (Ct.slice ha lv)).1).value h.to) fun w h=>?_
 exact rr (resCt rfl rfl (h.b a8) Row.h rfl)<|⟨_,(Ct.swappedR true ((Ct.X.of c x).node (Ct.blookup ((Ct.X.of c x).node m) (Ct.slice ha lv)).1).value,(bif v67 then 1 else 0)),Ct.rN<|Ct.rF hd6<|Ct.rN<|Ct.rF (by rw [hd23,hd26]; rfl)<|Ct.rT (by rw [hd23]; exact hd54)<|Ct.rnT (by simpa only [hd54] using hd57)<|Ct.rA q60<|Ct.rB q64<|Ct.rB q68<|Ct.rR,rfl,h.to,k⟩
 refine j100 (xnode_any xb mb (Ct.X.of c x) (Ct.blookup ((Ct.X.of c x).node m) (Ct.slice ha lv)).1 h.to k.big') fun p70 w h=>?_
 have f71:=k.fitN (Ct.blookup ((Ct.X.of c x).node m) (Ct.slice ha lv)).1
 have bf71:=k.len
 refine go h fun w h=>?_
 refine j000 (permits_any xb mb x c false 0 h.to) fun w h=>?_
 refine qc h (fun hd72 w h=>?_) fun hd72 w h=>?_
 have hd73 : (Ct.permitsC c false 0)=false:=by simpa using hd72
 refine go h fun w h=>?_
 refine j000 (value_any false 0 h.to) fun w h=>?_
 exact rr (resCt rfl rfl (h.b a6) Row.h rfl)<|⟨_,(Ct.valueR false 0,1),Ct.rN<|Ct.rF hd6<|Ct.rN<|Ct.rF (by rw [hd23]; rfl)<|Ct.rF (by rw [hd23]; rfl)<|Ct.rnF hd73<|Ct.rR,rfl,h.to,k⟩
 have hd74 : (Ct.permitsC c false 0)=true:=by simpa using hd72
 refine go h fun w h=>?_
 refine drT (F:=[bl b5 (nodeC ((Ct.X.of c x).node m) p3) 77,bl b22 ([.int .i64 4,.int .i64 0,.int .i64 0,.int .u64 0,.slice none 0 0,.int .u64 ((ha : Nat) : Int),.string c.key,.int .u64 ((c.value : Nat) : Int),.slice none 0 0,.int .i64 0,.int .i64 0,.int .i64 0,.int .i64 0,.int .i64 0]) 77]) (.op 0 true (.op 1 true (.op 2 true (.op 3 true (.fork 4 9 (.fork 5 9 (.op 6 true (.op 7 true (.op 8 true (.op 9 false (.op 10 false (.op 11 false .stop)))))) (.op 5 false (.op 6 true (.op 7 true (.op 8 true (.op 10 false (.op 11 false .stop))))))) (.op 4 false (.op 5 false (.op 6 true (.op 7 true (.op 8 true (.op 10 false (.op 11 false .stop)))))))))))) (by kernel_rfl) h (fun w h=>(hC (h.at_ a4) (hC (h.at_ a3) hN))) fun w h=>go h fun w h=>?_
 refine xzT ?_ ?_
 refine s211 (alloc_x (j:=59) xb mb (Ct.X.of c x) ({ kind:=4,hash:=ha,key:=c.key,value:=c.value }) {} 0 (SH.nilN ({ kind:=4,hash:=ha,key:=c.key,value:=c.value }) rfl rfl h.to) (k.less (by omega)) (Ct.fit_key _ 4 _ _ _ (by decide) hh hky)) fun y75 v76 q77 w h ⟨k,hly75⟩=>?_
 obtain ⟨z78,rfl⟩:=Ct.keA q77
 have lq77:=Ct.leA q77
 refine go h fun w h=>?_
 refine xzT ?_ ?_
 refine s100 (rinserted_any ((Ct.X.of c x).node m) p3 (Ct.slice ha lv) v76 h.to (Ct.Node.Fit.nf f4 (by omega))) fun q79 w h=>?_
 refine jB h fun b80 w h=>?_
 refine drH [1,3,5,7,9,11,13,15,16,18,20,23,25,26,28] (by kernel_rfl) h (.c r7 (.c r0 .n)) fun w h=>go h fun w h=>?_
 refine s211 (alloc_x (j:=58) xb mb (Ct.X.of c z78) (Ct.pinserted ((Ct.X.of c x).node m) (Ct.slice ha lv) v76).1 q79 m ((SH.duN h.to .z).fr (.c r0 (.c r1 .n))) (k.less (by omega)) ((Ct.fit_inserted f4 (Ct.slice ha lv) v76).mono (by omega))) fun y81 v82 q83 w h ⟨k,hly81⟩=>?_
 obtain ⟨z84,rfl⟩:=Ct.keA q83
 have lq83:=Ct.leA q83
 refine go h fun w h=>?_
 refine s211 (gcas_any xb mb (Ct.X.of c z84) c.trie i m v82 h.to (k.less (by omega))) fun y85 v86 q87 w h k=>?_
 obtain ⟨z88,rfl⟩:=Ct.keB q87
 have lq87:=Ct.leB q87
 refine go h fun w h=>?_
 refine s000 (swapped_any _ v86 false 0 h.to) fun w h=>?_
 exact rr (resCt rfl rfl (h.b a8) Row.h rfl)<|⟨_,(Ct.swappedR false 0,(bif v86 then 1 else 0)),Ct.rN<|Ct.rF hd6<|Ct.rN<|Ct.rF (by rw [hd23]; rfl)<|Ct.rF (by rw [hd23]; rfl)<|Ct.rnT hd74<|Ct.rnF hd23<|Ct.rA q77<|Ct.rA q83<|Ct.rB q87<|Ct.rR,rfl,h.to,k⟩
 refine jB h fun b89 w h=>?_
 refine s100 (rinserted_any ((Ct.X.of c x).node m) p3 (Ct.slice ha lv) v76 h.to (Ct.Node.Fit.nf f4 (by omega))) fun q90 w h=>?_
 refine drH [1,3,5,7,9,11,13,15,16,18,20,23,25,26,28] (by kernel_rfl) h (.c r7 (.c r2 .n)) fun w h=>go h fun w h=>?_
 refine s211 (alloc_x (j:=58) xb mb (Ct.X.of c z78) (Ct.pinserted ((Ct.X.of c x).node m) (Ct.slice ha lv) v76).1 q90 m ((SH.duN h.to .z).fr (.c r0 (.c r1 .n))) (k.less (by omega)) ((Ct.fit_inserted f4 (Ct.slice ha lv) v76).mono (by omega))) fun y91 v92 q93 w h ⟨k,hly91⟩=>?_
 obtain ⟨z94,rfl⟩:=Ct.keA q93
 have lq93:=Ct.leA q93
 refine go h fun w h=>?_
 refine s211 (gcas_any xb mb (Ct.X.of c z94) c.trie i m v92 h.to (k.less (by omega))) fun y95 v96 q97 w h k=>?_
 obtain ⟨z98,rfl⟩:=Ct.keB q97
 have lq97:=Ct.leB q97
 refine go h fun w h=>?_
 refine s000 (swapped_any _ v96 false 0 h.to) fun w h=>?_
 exact rr (resCt rfl rfl (h.b a8) Row.h rfl)<|⟨_,(Ct.swappedR false 0,(bif v96 then 1 else 0)),Ct.rN<|Ct.rF hd6<|Ct.rN<|Ct.rF (by rw [hd23]; rfl)<|Ct.rF (by rw [hd23]; rfl)<|Ct.rnT hd74<|Ct.rnF hd23<|Ct.rA q77<|Ct.rA q93<|Ct.rB q97<|Ct.rR,rfl,h.to,k⟩
 refine jB h fun b99 w h=>?_
 refine s211 (alloc_x (j:=59) xb mb (Ct.X.of c x) ({ kind:=4,hash:=ha,key:=c.key,value:=c.value }) {} 0 (SH.nilN ({ kind:=4,hash:=ha,key:=c.key,value:=c.value }) rfl rfl h.to) (k.less (by omega)) (Ct.fit_key _ 4 _ _ _ (by decide) hh hky)) fun y100 v101 q102 w h ⟨k,hly100⟩=>?_
 obtain ⟨z103,rfl⟩:=Ct.keA q102
 have lq102:=Ct.leA q102
 refine go h fun w h=>?_
 refine s100 (rinserted_any ((Ct.X.of c x).node m) p3 (Ct.slice ha lv) v101 h.to (Ct.Node.Fit.nf f4 (by omega))) fun q104 w h=>?_
 refine drH [1,3,5,7,9,11,13,15,16,18,20,23,25,26,28] (by kernel_rfl) h (.c r7 (.c r3 .n)) fun w h=>go h fun w h=>?_
 refine s211 (alloc_x (j:=58) xb mb (Ct.X.of c z103) (Ct.pinserted ((Ct.X.of c x).node m) (Ct.slice ha lv) v101).1 q104 m ((SH.duN h.to .z).fr (.c r0 (.c r1 .n))) (k.less (by omega)) ((Ct.fit_inserted f4 (Ct.slice ha lv) v101).mono (by omega))) fun y105 v106 q107 w h ⟨k,hly105⟩=>?_
 obtain ⟨z108,rfl⟩:=Ct.keA q107
 have lq107:=Ct.leA q107
 refine go h fun w h=>?_
 refine s211 (gcas_any xb mb (Ct.X.of c z108) c.trie i m v106 h.to (k.less (by omega))) fun y109 v110 q111 w h k=>?_
 obtain ⟨z112,rfl⟩:=Ct.keB q111
 have lq111:=Ct.leB q111
 refine go h fun w h=>?_
 refine s000 (swapped_any _ v110 false 0 h.to) fun w h=>?_
 exact rr (resCt rfl rfl (h.b a8) Row.h rfl)<|⟨_,(Ct.swappedR false 0,(bif v110 then 1 else 0)),Ct.rN<|Ct.rF hd6<|Ct.rN<|Ct.rF (by rw [hd23]; rfl)<|Ct.rF (by rw [hd23]; rfl)<|Ct.rnT hd74<|Ct.rnF hd23<|Ct.rA q102<|Ct.rA q107<|Ct.rB q111<|Ct.rR,rfl,h.to,k⟩
theorem below_any (xb mb : Nat) (x : Ct.X) (c : Ct.Call) (i m ix gen : Int) (h : SH B w (XA xb mb (Ct.X.of c x)::L)) (k : Ct.Ok 60 (Ct.X.of c x)) :
  Calls Tryz.prog 225 #[.pointer (some ⟨xb,0,none⟩),.int .i64 i,.int .i64 m,.int .i64 ix,.int .i64 gen] w fun e w'=>∃ y v,Ct.runI (Ct.belowI c.trie i m ix gen) (Ct.X.of c x)=Ct.out y v∧e=.returned (.int .i64 v)∧SH B w' (XA xb mb y::L)∧Ct.Ok 60 y:=by
 have hlen:=k.len
 refine bn0 Tryz.func225 Tryz.ntmps225 h fun w h=>?_
 refine j100 (xnode_any _ _ _ _ h.to k.big') fun p1 w h=>?_
 have f2:=k.fitN m
 have bf2:=k.len
 refine go h fun w h=>?_
 refine j000 (rlookup_any _ _ _ _ _ _ h.to (Ct.Node.Fit.nf f2 (by omega))) fun w h=>?_
 refine st (ld (v:=.bool (Ct.X.of c x).e.stopped) One.h rfl (h.xc a1 fun _=>rfl))<|go h fun w h=>?_
 refine qg h (fun hd3 w h=>?_) fun hd3 w h=>?_
 exact rz ⟨_,(Ct.blookup ((Ct.X.of c x).node m) ix).1,Ct.rN<|Ct.rS hd3,rfl,h.drop,(k.stop hd3)⟩
 refine j100 (xnode_any _ _ _ _ h.to k.big') fun p4 w h=>?_
 have f5:=k.fitN (Ct.blookup ((Ct.X.of c x).node m) ix).1
 have bf5:=k.len
 refine go h fun w h=>?_
 refine qc h (fun hd6 w h=>?_) fun hd6 w h=>?_
 have hg7:=eq_of_beq hd6
 refine go h fun w h=>?_
 exact rz ⟨_,(Ct.blookup ((Ct.X.of c x).node m) ix).1,Ct.rN<|Ct.rN<|Ct.rT hd6<|Ct.rR,rfl,h.to,k⟩
 have hg8:=ne_of_beq_false hd6
 refine go h fun w h=>?_
 refine st (ldr (cs:=trieC c.trie) rfl (h.xr 2 a1 fun _=>rfl) Row.h)<|go h fun w h=>?_
 refine j211 (renew_any _ _ _ _ _ _ _ h.to (k.less (by omega)) ) fun y9 v10 q11 w h k=>?_
 obtain ⟨z12,rfl⟩:=Ct.keB q11
 have lq11:=Ct.leB q11
 refine go h fun w h=>?_
 exact rz ⟨_,v10,Ct.rN<|Ct.rN<|Ct.rF hd6<|q11,rfl,h.to,k⟩
theorem put_any (xb mb : Nat) (x : Ct.X) (c : Ct.Call) (F : Nat) (h : SH B w (XA xb mb (Ct.X.of c x)::L)) (k : Ct.Ok 60 (Ct.X.of c x)) (hx : (Ct.X.of c x).left<F) (hF : F≤100000000000) (hm : c.mask<18446744073709551616) (hky : c.key.size≤64) :
  Calls Tryz.prog 173 #[.pointer (some ⟨xb,0,none⟩)] w fun e w'=>∃ y v,Ct.runI (Ct.putI c F F) (Ct.X.of c x)=Ct.out y v∧e=.returned (.agg (resV v).toArray)∧SH B w' (XA xb mb y::L)∧Ct.Ok 60 y:=by
 have hh:=Ct.hashOf_lt' c.key c.mask
 have hlen:=k.len
 refine bn0 Tryz.func173 Tryz.ntmps173 h fun w h=>?_
 refine jA h fun b1 w h=>?_
 refine drB (F:=[XA xb mb (Ct.X.of c x)]) [1,3,5,7,9,11,13,15,17,19,21,23,25,27,29] 15 16 [32,34,36] [30,34,36] (by kernel_rfl) h (fun w h=>(hC (h.at_ a1) hN)) fun w h=>go h fun w h=>?_
 refine tk (fun W H=>ldr (cs:=trieC c.trie) rfl (H.xr 2 a0 fun _=>rfl) Row.h)<|go h fun w h=>?_
 refine tk (fun W H=>ld (v:=.string c.key) One.h rfl (H.xc a0 fun _=>rfl))<|go h fun w h=>?_
 refine tk (fun W H=>ld (v:=.int .u64 ((c.mask : Nat) : Int)) One.h rfl (H.xc a0 fun _=>rfl))<|go h fun w h=>?_
 refine xzB ?_ ?_
 refine cs (ca en_117 rfl) ((rhash_any c.key c.mask _ (by omega) (by omega)).mono ?_)
 rintro _ _ ⟨rfl,rfl⟩
 refine ⟨_,rfl,(hC (h.at_ a1) hN),?_⟩
 refine go h fun w h=>?_
 refine jB h fun b2 w h=>?_
 refine lp (α:=Ct.X × Nat) (fun ρ=>(.c 0 (.pointer (some ⟨xb,0,none⟩)) (.c 2 (.pointer (some ⟨b1,0,none⟩)) (.c 3 (.pointer (some ⟨b2,0,none⟩)) (.c 4 (.int .u64 ((Ct.hashOf c.key c.mask : Nat) : Int)) .n))))) (fun ρ w=>SH B w (XA xb mb (Ct.X.of c ρ.1)::bl b2 (trieC c.trie) 35::bl b1 ([.int .i64 0,.bool false,.int .u64 0,.string .empty,.int .i64 0,.int .i64 0,.int .i64 0,.bool false]) 43::L)∧(Ct.runI (Ct.putI c F F) (Ct.X.of c x)=Ct.runI (Ct.putI c F ρ.2) (Ct.X.of c ρ.1))∧(Ct.Ok 60 (Ct.X.of c ρ.1))∧((Ct.X.of c ρ.1).e.stopped=true∨(Ct.X.of c ρ.1).left<ρ.2)∧(ρ.2≤F)) (fun ρ=>ρ.2) (x,F) ⟨rfl,rfl,rfl,rfl,trivial⟩ ⟨h.to,rfl,k,(.inr (by (try dsimp only); omega)),Nat.le_refl _⟩ ?_
 rintro ⟨y,n⟩ w ⟨h,hq,k,hn,hnF⟩
 dsimp only at *
 refine go h fun w h=>?_
 refine st (ld (v:=.bool (Ct.X.of c y).e.stopped) One.h rfl (h.xc a0 fun _=>rfl))<|go h fun w h=>?_
 refine qc h (fun hd3 w h=>?_) fun hd3 w h=>?_
 have hd4 : (Ct.X.of c y).e.stopped=false:=by simpa using hd3
 refine go h fun w h=>?_
 obtain ⟨n,rfl⟩ : ∃ k,n=k+1 :=⟨n - 1,by have:=hn.resolve_left (by rw [hd4]; decide); omega⟩
 replace hn:=hn.resolve_left (by rw [hd4]; decide)
 rw [Ct.putI_succ] at hq
 refine go h fun w h=>?_
 have kb5:=k
 refine j211 (help_any _ _ _ _ h.to (k.less (by omega))) fun y6 v7 q8 w h k=>?_
 obtain ⟨z9,rfl⟩:=Ct.keB q8
 have lq8:=Ct.leB q8
 have ltq8:=Ct.lt_help kb5 (by omega) q8
 refine go h fun w h=>?_
 refine j100 (xnode_any _ _ _ _ h.to k.big') fun p10 w h=>?_
 have f11:=k.fitN v7
 have bf11:=k.len
 refine go h fun w h=>?_
 refine lp (α:=Ct.X × Nat × Int × Int × Int) (fun ρ=>(.c 0 (.pointer (some ⟨xb,0,none⟩)) (.c 2 (.pointer (some ⟨b1,0,none⟩)) (.c 3 (.pointer (some ⟨b2,0,none⟩)) (.c 4 (.int .u64 ((Ct.hashOf c.key c.mask : Nat) : Int)) (.c 5 (.int .i64 ρ.2.2.2.1) (.c 6 (.int .i64 ((Ct.X.of c z9).node v7).gen) (.c 7 (.int .i64 ρ.2.2.1) (.c 8 (.int .i64 ρ.2.2.2.2) .n))))))))) (fun ρ w=>SH B w (XA xb mb (Ct.X.of c ρ.1)::bl b2 (trieC c.trie) 35::bl b1 ([.int .i64 0,.bool false,.int .u64 0,.string .empty,.int .i64 0,.int .i64 0,.int .i64 0,.bool false]) 43::L)∧(Ct.runI (Ct.putI c F F) (Ct.X.of c x)=Ct.runI ((Ct.putIn c (Ct.hashOf c.key c.mask) ((Ct.X.of c z9).node v7).gen ρ.2.1 ρ.2.2.1 ρ.2.2.2.1 ρ.2.2.2.2).bind (Ct.putK c F n)) (Ct.X.of c ρ.1))∧(Ct.Ok 60 (Ct.X.of c ρ.1))∧((Ct.X.of c ρ.1).e.stopped=true∨(Ct.X.of c ρ.1).left<ρ.2.1)∧((Ct.X.of c ρ.1).e.stopped=true∨(Ct.X.of c ρ.1).left<n)∧(0≤ρ.2.2.2.2∧ρ.2.2.2.2+((ρ.2.1 : Nat) : Int)≤((F : Nat) : Int))) (fun ρ=>ρ.2.1) (z9,F,0,v7,0) ⟨rfl,rfl,rfl,rfl,rfl,rfl,rfl,rfl,trivial⟩ ⟨h.drop,(hq.trans<|Ct.rB q8<|Ct.rN<|rfl),k,(ltq8.imp id fun h=>by have:=h.2; (try dsimp only); omega),(ltq8.imp id fun h=>by have:=h.2; (try dsimp only); omega),⟨by (try dsimp only); omega,by (try dsimp only); omega⟩⟩ ?_
 rintro ⟨yi,kk,pa,i,l⟩ w ⟨h,hq,k,hn,ho,hl⟩
 dsimp only at *
 refine go h fun w h=>?_
 refine st (ld (v:=.bool (Ct.X.of c yi).e.stopped) One.h rfl (h.xc a0 fun _=>rfl))<|go h fun w h=>?_
 refine qc h (fun hd12 w h=>?_) fun hd12 w h=>?_
 have hd13 : (Ct.X.of c yi).e.stopped=false:=by simpa using hd12
 refine go h fun w h=>?_
 obtain ⟨kk,rfl⟩ : ∃ k,kk=k+1 :=⟨kk - 1,by have:=hn.resolve_left (by rw [hd13]; decide); omega⟩
 replace hn:=hn.resolve_left (by rw [hd13]; decide)
 replace ho:=ho.resolve_left (by rw [hd13]; decide)
 refine go h fun w h=>?_
 have kb14:=k
 refine j211 (read_any _ _ _ _ _ h.to (k.less (by omega))) fun y15 v16 q17 w h k=>?_
 obtain ⟨z18,rfl⟩:=Ct.keB q17
 have lq17:=Ct.leB q17
 have ltq17:=Ct.lt_read kb14 q17
 refine go h fun w h=>?_
 refine st (ld (v:=.bool (Ct.X.of c z18).e.stopped) One.h rfl (h.xc a0 fun _=>rfl))<|go h fun w h=>?_
 refine qc h (fun hd19 w h=>?_) fun hd19 w h=>?_
 exact ⟨(z18,n),⟨rfl,rfl,rfl,rfl,trivial⟩,⟨h,(hq.trans<|Ct.rBB q17<|Ct.rst hd19),k,(.inl hd19),by (try dsimp only); omega⟩,by (try dsimp only); omega⟩
 refine j100 (xnode_any _ _ _ _ h.to k.big') fun p20 w h=>?_
 have f21:=k.fitN v16
 have bf21:=k.len
 refine go h fun w h=>?_
 refine qc h (fun hd22 w h=>?_) fun hd22 w h=>?_
 have hg23:=eq_of_beq hd22
 refine go h fun w h=>?_
 refine st (bs (l - 1))<|go h fun w h=>?_
 have kb24:=k
 refine j211 (clean_any _ _ _ _ _ _ _ _ h.to (k.less (by omega)) hh) fun y25 v26 q27 w h k=>?_
 obtain ⟨z28,rfl⟩:=Ct.keB q27
 have lq27:=Ct.leB q27
 have ltq27:=Ct.le_good (Ct.good_clean _ _ _ _ _) kb24 (by omega) q27
 refine go h fun w h=>?_
 exact ⟨(z28,n),⟨rfl,rfl,rfl,rfl,trivial⟩,⟨h.to,(hq.trans<|Ct.rBB q17<|Ct.rNB<|Ct.rTB hd22<|Ct.rBB q27<|rfl),k,(.inr (by have:=(ltq17.resolve_left (by rw [hd19]; decide)).2; have:=ltq27; (try dsimp only); omega)),by (try dsimp only); omega⟩,by (try dsimp only); omega⟩
 have hg29:=ne_of_beq_false hd22
 refine go h fun w h=>?_
 have kb30:=k
 refine j211 (putLeaf_any _ _ _ c _ _ _ _ _ h.to (k.less (by omega)) hh hky (by omega) (by omega)) fun y31 v32 q33 w h k=>?_
 obtain ⟨z34,rfl⟩:=Ct.keB q33
 have lq33:=Ct.leB q33
 have ltq33:=Ct.le_good (Ct.good_putLeaf c _ _ _ _ _ hky hh (by omega)) kb30 (by omega) q33
 refine go h fun w h=>?_
 refine jA h fun b35 w h=>?_
 refine st (ld (v:=.bool (Ct.X.of c z34).e.stopped) One.h rfl (h.xc a1 fun _=>rfl))<|go h fun w h=>?_
 refine qg h (fun hd36 w h=>?_) fun hd36 w h=>?_
 exact rr (resC rfl rfl (h.b a4) Row.h)<|⟨_,v32.1,hq.trans<|Ct.rBB q17<|Ct.rNB<|Ct.rFB hd22<|Ct.rBB q33<|Ct.rS hd36,rfl,h.to,(k.stop hd36)⟩
 refine qc h (fun hd37 w h=>?_) fun hd37 w h=>?_
 have hg38:=eq_of_beq hd37
 refine go h fun w h=>?_
 exact rr (resC rfl rfl (h.b a4) Row.h)<|⟨_,v32.1,hq.trans<|Ct.rBB q17<|Ct.rNB<|Ct.rFB hd22<|Ct.rBB q33<|Ct.rTB hd37<|Ct.rR,rfl,h.to,k⟩
 have hg39:=ne_of_beq_false hd37
 refine go h fun w h=>?_
 refine qc h (fun hd40 w h=>?_) fun hd40 w h=>?_
 have hg41:=eq_of_beq hd40
 refine go h fun w h=>?_
 exact ⟨(z34,n),⟨rfl,rfl,rfl,rfl,trivial⟩,⟨h.to,(hq.trans<|Ct.rBB q17<|Ct.rNB<|Ct.rFB hd22<|Ct.rBB q33<|Ct.rFB hd37<|Ct.rTB hd40<|rfl),k,(.inr (by have:=(ltq17.resolve_left (by rw [hd19]; decide)).2; have:=ltq33; (try dsimp only); omega)),by (try dsimp only); omega⟩,by (try dsimp only); omega⟩
 have hg42:=ne_of_beq_false hd40
 refine go h fun w h=>?_
 refine cl (ca en_181 rfl) ((rslice_any (Ct.hashOf c.key c.mask) l _ (by omega)).mono ?_)
 rintro _ _ ⟨rfl,rfl⟩
 refine ⟨_,rfl,?_⟩
 refine st (mv rfl)<|?_
 refine go h fun w h=>?_
 have kb43:=k
 refine j211 (below_any _ _ _ c _ _ _ _ h.to (k.less (by omega)) ) fun y44 v45 q46 w h k=>?_
 obtain ⟨z47,rfl⟩:=Ct.keB q46
 have lq46:=Ct.leB q46
 have ltq46:=Ct.le_good (Ct.good_below _ _ _ _ _) kb43 (by omega) q46
 refine go h fun w h=>?_
 refine qc h (fun hd48 w h=>?_) fun hd48 w h=>?_
 have hg49:=eq_of_beq hd48
 refine go h fun w h=>?_
 exact ⟨(z47,n),⟨rfl,rfl,rfl,rfl,trivial⟩,⟨h.to,(hq.trans<|Ct.rBB q17<|Ct.rNB<|Ct.rFB hd22<|Ct.rBB q33<|Ct.rFB hd37<|Ct.rFB hd40<|Ct.rBB q46<|Ct.rTB hd48<|rfl),k,(.inr (by have:=(ltq17.resolve_left (by rw [hd19]; decide)).2; have:=ltq33; have:=ltq46; (try dsimp only); omega)),by (try dsimp only); omega⟩,by (try dsimp only); omega⟩
 have hg50:=ne_of_beq_false hd48
 refine go h fun w h=>?_
 refine st (ba (l+1))<|go h fun w h=>?_
 exact ⟨(z47,kk,i,v45,l+1),⟨rfl,rfl,rfl,rfl,rfl,rfl,rfl,rfl,trivial⟩,⟨h.to,(hq.trans<|Ct.rBB q17<|Ct.rNB<|Ct.rFB hd22<|Ct.rBB q33<|Ct.rFB hd37<|Ct.rFB hd40<|Ct.rBB q46<|Ct.rFB hd48<|rfl),k,(.inr (by have:=(ltq17.resolve_left (by rw [hd19]; decide)).2; have:=ltq33; have:=ltq46; (try dsimp only); omega)),(.inr (by have:=(ltq17.resolve_left (by rw [hd19]; decide)).2; have:=ltq33; have:=ltq46; (try dsimp only); omega)),⟨by (try dsimp only); omega,by (try dsimp only); omega⟩⟩,by (try dsimp only); omega⟩
 have hd51 : (Ct.X.of c yi).e.stopped=true:=by simpa using hd12
 refine go h fun w h=>?_
 exact ⟨(yi,n),⟨rfl,rfl,rfl,rfl,trivial⟩,⟨h,(hq.trans<|Ct.rst hd51),k,(.inl hd51),by (try dsimp only); omega⟩,by (try dsimp only); omega⟩
 have hd52 : (Ct.X.of c y).e.stopped=true:=by simpa using hd3
 refine go h fun w h=>?_
 exact rr (resC rfl rfl (h.b a2) Row.h)<|⟨_,{},hq.trans<|Ct.rS hd52,rfl,h.to,(k.stop hd52)⟩
 refine jB h fun b53 w h=>?_
 refine cs (ca en_117 rfl) ((rhash_any c.key c.mask _ (by omega) (by omega)).mono ?_)
 rintro _ _ ⟨rfl,rfl⟩
 refine ⟨_,rfl,(hC (h.at_ a2) hN),?_⟩
 refine ff (so h rfl rfl rfl sz_35 rfl (.r (.r .d)) u0)<|?_
 rintro _ w h
 refine ⟨(hC (h.at_ a2) hN),?_⟩
 refine ef (sg rfl) ((hC (h.at_ a2) hN))<|xz<|nx<|sq<|bk<|?_
 refine go h fun w h=>?_
 refine lp (α:=Ct.X × Nat) (fun ρ=>(.c 0 (.pointer (some ⟨xb,0,none⟩)) (.c 2 (.pointer (some ⟨b1,0,none⟩)) (.c 3 (.pointer (some ⟨b53,0,none⟩)) (.c 4 (.int .u64 ((Ct.hashOf c.key c.mask : Nat) : Int)) .n))))) (fun ρ w=>SH B w (XA xb mb (Ct.X.of c ρ.1)::bl b53 (trieC c.trie) 35::bl b1 ([.int .i64 0,.bool false,.int .u64 0,.string .empty,.int .i64 0,.int .i64 0,.int .i64 0,.bool false]) 43::L)∧(Ct.runI (Ct.putI c F F) (Ct.X.of c x)=Ct.runI (Ct.putI c F ρ.2) (Ct.X.of c ρ.1))∧(Ct.Ok 60 (Ct.X.of c ρ.1))∧((Ct.X.of c ρ.1).e.stopped=true∨(Ct.X.of c ρ.1).left<ρ.2)∧(ρ.2≤F)) (fun ρ=>ρ.2) (x,F) ⟨rfl,rfl,rfl,rfl,trivial⟩ ⟨h.to,rfl,k,(.inr (by (try dsimp only); omega)),Nat.le_refl _⟩ ?_
 rintro ⟨y,n⟩ w ⟨h,hq,k,hn,hnF⟩
 dsimp only at *
 refine go h fun w h=>?_
 refine st (ld (v:=.bool (Ct.X.of c y).e.stopped) One.h rfl (h.xc a0 fun _=>rfl))<|go h fun w h=>?_
 refine qc h (fun hd54 w h=>?_) fun hd54 w h=>?_
 have hd55 : (Ct.X.of c y).e.stopped=false:=by simpa using hd54
 refine go h fun w h=>?_
 obtain ⟨n,rfl⟩ : ∃ k,n=k+1 :=⟨n - 1,by have:=hn.resolve_left (by rw [hd55]; decide); omega⟩
 replace hn:=hn.resolve_left (by rw [hd55]; decide)
 rw [Ct.putI_succ] at hq
 refine go h fun w h=>?_
 have kb56:=k
 refine j211 (help_any _ _ _ _ h.to (k.less (by omega))) fun y57 v58 q59 w h k=>?_
 obtain ⟨z60,rfl⟩:=Ct.keB q59
 have lq59:=Ct.leB q59
 have ltq59:=Ct.lt_help kb56 (by omega) q59
 refine go h fun w h=>?_
 refine j100 (xnode_any _ _ _ _ h.to k.big') fun p61 w h=>?_
 have f62:=k.fitN v58
 have bf62:=k.len
 refine go h fun w h=>?_
 refine lp (α:=Ct.X × Nat × Int × Int × Int) (fun ρ=>(.c 0 (.pointer (some ⟨xb,0,none⟩)) (.c 2 (.pointer (some ⟨b1,0,none⟩)) (.c 3 (.pointer (some ⟨b53,0,none⟩)) (.c 4 (.int .u64 ((Ct.hashOf c.key c.mask : Nat) : Int)) (.c 5 (.int .i64 ρ.2.2.2.1) (.c 6 (.int .i64 ((Ct.X.of c z60).node v58).gen) (.c 7 (.int .i64 ρ.2.2.1) (.c 8 (.int .i64 ρ.2.2.2.2) .n))))))))) (fun ρ w=>SH B w (XA xb mb (Ct.X.of c ρ.1)::bl b53 (trieC c.trie) 35::bl b1 ([.int .i64 0,.bool false,.int .u64 0,.string .empty,.int .i64 0,.int .i64 0,.int .i64 0,.bool false]) 43::L)∧(Ct.runI (Ct.putI c F F) (Ct.X.of c x)=Ct.runI ((Ct.putIn c (Ct.hashOf c.key c.mask) ((Ct.X.of c z60).node v58).gen ρ.2.1 ρ.2.2.1 ρ.2.2.2.1 ρ.2.2.2.2).bind (Ct.putK c F n)) (Ct.X.of c ρ.1))∧(Ct.Ok 60 (Ct.X.of c ρ.1))∧((Ct.X.of c ρ.1).e.stopped=true∨(Ct.X.of c ρ.1).left<ρ.2.1)∧((Ct.X.of c ρ.1).e.stopped=true∨(Ct.X.of c ρ.1).left<n)∧(0≤ρ.2.2.2.2∧ρ.2.2.2.2+((ρ.2.1 : Nat) : Int)≤((F : Nat) : Int))) (fun ρ=>ρ.2.1) (z60,F,0,v58,0) ⟨rfl,rfl,rfl,rfl,rfl,rfl,rfl,rfl,trivial⟩ ⟨h.drop,(hq.trans<|Ct.rB q59<|Ct.rN<|rfl),k,(ltq59.imp id fun h=>by have:=h.2; (try dsimp only); omega),(ltq59.imp id fun h=>by have:=h.2; (try dsimp only); omega),⟨by (try dsimp only); omega,by (try dsimp only); omega⟩⟩ ?_
 rintro ⟨yi,kk,pa,i,l⟩ w ⟨h,hq,k,hn,ho,hl⟩
 dsimp only at *
 refine go h fun w h=>?_
 refine st (ld (v:=.bool (Ct.X.of c yi).e.stopped) One.h rfl (h.xc a0 fun _=>rfl))<|go h fun w h=>?_
 refine qc h (fun hd63 w h=>?_) fun hd63 w h=>?_
 have hd64 : (Ct.X.of c yi).e.stopped=false:=by simpa using hd63
 refine go h fun w h=>?_
 obtain ⟨kk,rfl⟩ : ∃ k,kk=k+1 :=⟨kk - 1,by have:=hn.resolve_left (by rw [hd64]; decide); omega⟩
 replace hn:=hn.resolve_left (by rw [hd64]; decide)
 replace ho:=ho.resolve_left (by rw [hd64]; decide)
 refine go h fun w h=>?_
 have kb65:=k
 refine j211 (read_any _ _ _ _ _ h.to (k.less (by omega))) fun y66 v67 q68 w h k=>?_
 obtain ⟨z69,rfl⟩:=Ct.keB q68
 have lq68:=Ct.leB q68
 have ltq68:=Ct.lt_read kb65 q68
 refine go h fun w h=>?_
 refine st (ld (v:=.bool (Ct.X.of c z69).e.stopped) One.h rfl (h.xc a0 fun _=>rfl))<|go h fun w h=>?_
 refine qc h (fun hd70 w h=>?_) fun hd70 w h=>?_
 exact ⟨(z69,n),⟨rfl,rfl,rfl,rfl,trivial⟩,⟨h,(hq.trans<|Ct.rBB q68<|Ct.rst hd70),k,(.inl hd70),by (try dsimp only); omega⟩,by (try dsimp only); omega⟩
 refine j100 (xnode_any _ _ _ _ h.to k.big') fun p71 w h=>?_
 have f72:=k.fitN v67
 have bf72:=k.len
 refine go h fun w h=>?_
 refine qc h (fun hd73 w h=>?_) fun hd73 w h=>?_
 have hg74:=eq_of_beq hd73
 refine go h fun w h=>?_
 refine st (bs (l - 1))<|go h fun w h=>?_
 have kb75:=k
 refine j211 (clean_any _ _ _ _ _ _ _ _ h.to (k.less (by omega)) hh) fun y76 v77 q78 w h k=>?_
 obtain ⟨z79,rfl⟩:=Ct.keB q78
 have lq78:=Ct.leB q78
 have ltq78:=Ct.le_good (Ct.good_clean _ _ _ _ _) kb75 (by omega) q78
 refine go h fun w h=>?_
 exact ⟨(z79,n),⟨rfl,rfl,rfl,rfl,trivial⟩,⟨h.to,(hq.trans<|Ct.rBB q68<|Ct.rNB<|Ct.rTB hd73<|Ct.rBB q78<|rfl),k,(.inr (by have:=(ltq68.resolve_left (by rw [hd70]; decide)).2; have:=ltq78; (try dsimp only); omega)),by (try dsimp only); omega⟩,by (try dsimp only); omega⟩
 have hg80:=ne_of_beq_false hd73
 refine go h fun w h=>?_
 have kb81:=k
 refine j211 (putLeaf_any _ _ _ c _ _ _ _ _ h.to (k.less (by omega)) hh hky (by omega) (by omega)) fun y82 v83 q84 w h k=>?_
 obtain ⟨z85,rfl⟩:=Ct.keB q84
 have lq84:=Ct.leB q84
 have ltq84:=Ct.le_good (Ct.good_putLeaf c _ _ _ _ _ hky hh (by omega)) kb81 (by omega) q84
 refine go h fun w h=>?_
 refine jA h fun b86 w h=>?_
 refine st (ld (v:=.bool (Ct.X.of c z85).e.stopped) One.h rfl (h.xc a1 fun _=>rfl))<|go h fun w h=>?_
 refine qg h (fun hd87 w h=>?_) fun hd87 w h=>?_
 exact rr (resC rfl rfl (h.b a4) Row.h)<|⟨_,v83.1,hq.trans<|Ct.rBB q68<|Ct.rNB<|Ct.rFB hd73<|Ct.rBB q84<|Ct.rS hd87,rfl,h.to,(k.stop hd87)⟩
 refine qc h (fun hd88 w h=>?_) fun hd88 w h=>?_
 have hg89:=eq_of_beq hd88
 refine go h fun w h=>?_
 exact rr (resC rfl rfl (h.b a4) Row.h)<|⟨_,v83.1,hq.trans<|Ct.rBB q68<|Ct.rNB<|Ct.rFB hd73<|Ct.rBB q84<|Ct.rTB hd88<|Ct.rR,rfl,h.to,k⟩
 have hg90:=ne_of_beq_false hd88
 refine go h fun w h=>?_
 refine qc h (fun hd91 w h=>?_) fun hd91 w h=>?_
 have hg92:=eq_of_beq hd91
 refine go h fun w h=>?_
 exact ⟨(z85,n),⟨rfl,rfl,rfl,rfl,trivial⟩,⟨h.to,(hq.trans<|Ct.rBB q68<|Ct.rNB<|Ct.rFB hd73<|Ct.rBB q84<|Ct.rFB hd88<|Ct.rTB hd91<|rfl),k,(.inr (by have:=(ltq68.resolve_left (by rw [hd70]; decide)).2; have:=ltq84; (try dsimp only); omega)),by (try dsimp only); omega⟩,by (try dsimp only); omega⟩
 have hg93:=ne_of_beq_false hd91
 refine go h fun w h=>?_
 refine cl (ca en_181 rfl) ((rslice_any (Ct.hashOf c.key c.mask) l _ (by omega)).mono ?_)
 rintro _ _ ⟨rfl,rfl⟩
 refine ⟨_,rfl,?_⟩
 refine st (mv rfl)<|?_
 refine go h fun w h=>?_
 have kb94:=k
 refine j211 (below_any _ _ _ c _ _ _ _ h.to (k.less (by omega)) ) fun y95 v96 q97 w h k=>?_
 obtain ⟨z98,rfl⟩:=Ct.keB q97
 have lq97:=Ct.leB q97
 have ltq97:=Ct.le_good (Ct.good_below _ _ _ _ _) kb94 (by omega) q97
 refine go h fun w h=>?_
 refine qc h (fun hd99 w h=>?_) fun hd99 w h=>?_
 have hg100:=eq_of_beq hd99
 refine go h fun w h=>?_
 exact ⟨(z98,n),⟨rfl,rfl,rfl,rfl,trivial⟩,⟨h.to,(hq.trans<|Ct.rBB q68<|Ct.rNB<|Ct.rFB hd73<|Ct.rBB q84<|Ct.rFB hd88<|Ct.rFB hd91<|Ct.rBB q97<|Ct.rTB hd99<|rfl),k,(.inr (by have:=(ltq68.resolve_left (by rw [hd70]; decide)).2; have:=ltq84; have:=ltq97; (try dsimp only); omega)),by (try dsimp only); omega⟩,by (try dsimp only); omega⟩
 have hg101:=ne_of_beq_false hd99
 refine go h fun w h=>?_
 refine st (ba (l+1))<|go h fun w h=>?_
 exact ⟨(z98,kk,i,v96,l+1),⟨rfl,rfl,rfl,rfl,rfl,rfl,rfl,rfl,trivial⟩,⟨h.to,(hq.trans<|Ct.rBB q68<|Ct.rNB<|Ct.rFB hd73<|Ct.rBB q84<|Ct.rFB hd88<|Ct.rFB hd91<|Ct.rBB q97<|Ct.rFB hd99<|rfl),k,(.inr (by have:=(ltq68.resolve_left (by rw [hd70]; decide)).2; have:=ltq84; have:=ltq97; (try dsimp only); omega)),(.inr (by have:=(ltq68.resolve_left (by rw [hd70]; decide)).2; have:=ltq84; have:=ltq97; (try dsimp only); omega)),⟨by (try dsimp only); omega,by (try dsimp only); omega⟩⟩,by (try dsimp only); omega⟩
 have hd102 : (Ct.X.of c yi).e.stopped=true:=by simpa using hd63
 refine go h fun w h=>?_
 exact ⟨(yi,n),⟨rfl,rfl,rfl,rfl,trivial⟩,⟨h,(hq.trans<|Ct.rst hd102),k,(.inl hd102),by (try dsimp only); omega⟩,by (try dsimp only); omega⟩
 have hd103 : (Ct.X.of c y).e.stopped=true:=by simpa using hd54
 refine go h fun w h=>?_
 exact rr (resC rfl rfl (h.b a2) Row.h)<|⟨_,{},hq.trans<|Ct.rS hd103,rfl,h.to,(k.stop hd103)⟩
end Go.Proofs.YtmliojdkmfhmmaaGreat
end
