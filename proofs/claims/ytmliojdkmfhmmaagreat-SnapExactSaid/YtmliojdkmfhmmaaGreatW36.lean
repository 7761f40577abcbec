/- Parts of a proof: Q5. -/
import Derived.Test.YtmliojdkmfhmmaaGreatW09
import Derived.Test.YtmliojdkmfhmmaaGreatW32
import Derived.Test.YtmliojdkmfhmmaaGreatW20
import Derived.Test.YtmliojdkmfhmmaaGreatW24
import Derived.Test.YtmliojdkmfhmmaaGreatW04
import Derived.Test.YtmliojdkmfhmmaaGreatW35
import Derived.Test.YtmliojdkmfhmmaaGreatW16
set_option linter.unusedVariables false
set_option linter.unusedSimpArgs false
set_option maxRecDepth 100000
set_option maxHeartbeats 4000000
section
namespace Go.Proofs.YtmliojdkmfhmmaaGreat
attribute [local irreducible] Go.E.wpL Go.E.wpS Go.E.X Go.E.XS Go.E.C Go.E.thn Go.E.blk Go.E.fin Go.E.Y Go.E.U Go.E.F Go.E.Ca Go.E.Res Go.E.bl Go.E.rb Go.E.osl Go.E.rsl Go.E.ex Go.E.ce Go.E.pu Go.E.sK Go.E.gK Go.E.bK Go.E.zK
open Go.RowKit Go.E Go.Ct
variable {B w : World} {L : List As}
theorem dropLeaf_any (xb mb : Nat) (x : Ct.X) (c : Ct.Call) (i m : Int) (ha : Nat) (lv : Int) (h : SH B w (XA xb mb (Ct.X.of c x)::L)) (k : Ct.Ok 60 (Ct.X.of c x)) (hh : ha<18446744073709551616) :
  Calls Tryz.prog 226 #[.pointer (some ⟨xb,0,none⟩),.int .i64 i,.int .i64 m,.int .u64 ((ha : Nat) : Int),.int .i64 lv] w fun e w'=>∃ y v,Ct.runI (Ct.dropLeafI c i m ha lv) (Ct.X.of c x)=Ct.out y v∧e=.returned (.tuple #[.agg (resV v.1).toArray,.int .i64 v.2])∧SH B w' (XA xb mb y::L)∧Ct.Ok 60 y:=by
 have hlen:=k.len
 refine bn0 Tryz.func226 Tryz.ntmps226 h fun w h=>?_
 refine jA h fun b1 w h=>?_
 refine drB (F:=[XA xb mb (Ct.X.of c x)]) [1,3,7,9,11,13,15] 2 8 [16,18,20] [4,18,20] (by kernel_rfl) h (fun w h=>(hC (h.at_ a1) hN)) fun w h=>go h fun w h=>?_
 refine tk (fun W H=>ld (v:=.string c.key) One.h rfl (H.xc a0 fun _=>rfl))<|go h fun w h=>?_
 refine xzB ?_ ?_
 refine s100 (xnode_any _ _ _ _ h.to k.big') fun p2 w h=>?_
 have f3:=k.fitN m
 have bf3:=k.len
 refine go h fun w h=>?_
 refine jB h fun b4 w h=>?_
 refine qc h (fun hd5 w h=>?_) fun hd5 w h=>?_
 have hg6:=eq_of_beq hd5
 refine go h fun w h=>?_
 have h:=h.fr (.c r1 .n)
 have h:=SH.se (l:=[branchR ((Ct.X.of c x).node m) p2,pairR ((Ct.X.of c x).node m) p2]) h
 have hpv:=(Ct.valid_vf (((Ct.Node.Fit.nf f3 (by omega))).v6 (eq_of_beq hd5))).sorted (eq_of_beq hd5)
 have hpl:=((Ct.Node.Fit.nf f3 (by omega))).pr
 refine go h fun w h=>?_
 refine j000 (rfind_any _ _ _ _ h.to hpv (by omega)) fun w h=>?_
 have h:=SH.is (l:=[branchR ((Ct.X.of c x).node m) p2,pairR ((Ct.X.of c x).node m) p2]) (h.fr (.c r1 (.c r0 .n)))
 refine go h fun w h=>?_
 refine qg h (fun hd7 w h=>?_) fun hd7 w h=>?_
 have hd8 : (Ct.pfind ((Ct.X.of c x).node m).pairs c.key).2=false:=by simpa using hd7
 refine go h fun w h=>?_
 refine j000 (value_any _ _ h.to) fun w h=>?_
 exact rr (resCt rfl rfl (h.b a3) Row.h rfl)<|⟨_,(Ct.valueR (Ct.pfind ((Ct.X.of c x).node m).pairs c.key).2 (Ct.pfind ((Ct.X.of c x).node m).pairs c.key).1,1),Ct.rN<|Ct.rT hd5<|Ct.rnF hd8<|Ct.rR,rfl,h.to,k⟩
 have hd9 : (Ct.pfind ((Ct.X.of c x).node m).pairs c.key).2=true:=by simpa using hd7
 refine go h fun w h=>?_
 refine st (ld (v:=.bool c.only) One.h rfl (h.xc a2 fun _=>rfl))<|go h fun w h=>?_
 refine qg h (fun hd10 w h=>?_) fun hd10 w h=>?_
 refine st (ld (v:=.int .u64 ((c.expect : Nat) : Int)) One.h rfl (h.xc a2 fun _=>rfl))<|go h fun w h=>?_
 refine qc h (fun hd11 w h=>?_) fun hd11 w h=>?_
 have hg12:=bne_iff_ne.1 hd11
 refine go h fun w h=>?_
 refine j000 (value_any _ _ h.to) fun w h=>?_
 exact rr (resCt rfl rfl (h.b a3) Row.h rfl)<|⟨_,(Ct.valueR (Ct.pfind ((Ct.X.of c x).node m).pairs c.key).2 (Ct.pfind ((Ct.X.of c x).node m).pairs c.key).1,1),Ct.rN<|Ct.rT hd5<|Ct.rnT hd9<|Ct.rT (by rw [hd10,← Ct.natbne]; exact hd11)<|Ct.rR,rfl,h.to,k⟩
 have hg13:=eq_of_bneF hd11
 refine go h fun w h=>?_
 refine j100 (rshrunk_any _ _ _ _ _ _ h.to (Ct.Node.Fit.nf f3 (by omega)) (Ct.isL_yes hd5 (((Ct.Node.Fit.nf f3 (by omega))).v6 (eq_of_beq hd5)))) fun q14 w h=>?_
 refine jA h fun b15 w h=>?_
 refine drC (F:=[ce xb 2 (.int .i64 c.trie.root),ce xb 3 (.bool c.trie.readOnly),bl b15 (nodeC (Ct.shrunk ((Ct.X.of c x).node m) c.key).1 q14) 77]) [1,3,5,7,9,11,13,15,17,19,21,23,29,24,26,30,33,35,36,38] (by kernel_rfl) h (fun w h=>(hC (h.ceX a4 fun _=>rfl) (hC (h.ceX a4 fun _=>rfl) (hC (h.at_ a0) hN)))) fun w h=>go h fun w h=>?_
 refine tk (fun W H=>ldr (cs:=trieC c.trie) rfl (rows_ce2 (H.ce a0) (H.ce a1)) Row.h)<|go h fun w h=>?_
 refine cs (ca en_216 rfl) ((alloc_x (j:=59) xb mb (Ct.X.of c x) (Ct.shrunk ((Ct.X.of c x).node m) c.key).1 q14 m ((SH.duN (h.fr (.c r1 (.c r3 .n))) .z).fr (.c r0 (.c r1 .n))) (k.less (by omega)) ((Ct.fit_shrunk f3 c.key).mono (by omega))).mono ?_)
 rintro _ w ⟨y16,v17,q18,rfl,h,k,hly16⟩
 obtain ⟨z19,rfl⟩:=Ct.keA q18
 have lq18:=Ct.leA q18
 refine ⟨_,rfl,(hC (h.ceX a0 fun _=>rfl) (hC (h.ceX a0 fun _=>rfl) (hC (h.at_ a2) hN))),?_⟩
 refine go h fun w h=>?_
 refine cs (ca en_167 rfl) ((gcas_any xb mb (Ct.X.of c z19) c.trie i m v17 (h.fr (.c r0 .n)) (k.less (by omega))).mono ?_)
 rintro _ w ⟨y20,v21,q22,rfl,h,k⟩
 obtain ⟨z23,rfl⟩:=Ct.keB q22
 have lq22:=Ct.leB q22
 refine ⟨_,rfl,(hC (h.ceX a0 fun _=>rfl) (hC (h.ceX a0 fun _=>rfl) (hC (h.at_ a2) hN))),?_⟩
 refine go h fun w h=>?_
 refine cs (ca en_263 rfl) ((swapped_any _ v21 true (Ct.pfind ((Ct.X.of c x).node m).pairs c.key).1 (h.fr .n)).mono ?_)
 rintro _ w ⟨rfl,h⟩
 refine ⟨_,rfl,(hC (h.ceX a0 fun _=>rfl) (hC (h.ceX a0 fun _=>rfl) (hC (h.at_ a2) hN))),?_⟩
 refine tk (fun W H=>xr rfl rfl)<|tk (fun W H=>xr rfl rfl)<|?_
 refine ff (so h rfl rfl rfl sz_43 rfl (.r (.r (.r (.r (.r (.r (.r (.r .d)))))))) u5)<|?_
 rintro _ w h
 refine ⟨(hC (h.ceX a0 fun _=>rfl) (hC (h.ceX a0 fun _=>rfl) (hC (h.at_ a2) hN))),?_⟩
 refine ef (sg rfl) ((hC (h.ceX a0 fun _=>rfl) (hC (h.ceX a0 fun _=>rfl) (hC (h.at_ a2) hN))))<|xz<|nx<|rt<|tr<|?_
 refine go h fun w h=>?_
 exact rr (resCt rfl rfl (h.b a5) Row.h rfl)<|⟨_,(Ct.swappedR true (Ct.pfind ((Ct.X.of c x).node m).pairs c.key).1,(bif v21 then 1 else 0)),Ct.rN<|Ct.rT hd5<|Ct.rnT hd9<|Ct.rF (by rw [hd10,← Ct.natbne]; exact hd11)<|Ct.rA q18<|Ct.rB q22<|Ct.rR,rfl,h.to,k⟩
 refine j100 (rshrunk_any _ _ _ _ _ _ h.to (Ct.Node.Fit.nf f3 (by omega)) (Ct.isL_yes hd5 (((Ct.Node.Fit.nf f3 (by omega))).v6 (eq_of_beq hd5)))) fun q24 w h=>?_
 refine jA h fun b25 w h=>?_
 refine drC (F:=[ce xb 2 (.int .i64 c.trie.root),ce xb 3 (.bool c.trie.readOnly),bl b25 (nodeC (Ct.shrunk ((Ct.X.of c x).node m) c.key).1 q24) 77]) [1,3,5,7,9,11,13,15,17,19,21,23,29,24,26,30,33,35,36,38] (by kernel_rfl) h (fun w h=>(hC (h.ceX a4 fun _=>rfl) (hC (h.ceX a4 fun _=>rfl) (hC (h.at_ a0) hN)))) fun w h=>go h fun w h=>?_
 refine tk (fun W H=>ldr (cs:=trieC c.trie) rfl (rows_ce2 (H.ce a0) (H.ce a1)) Row.h)<|go h fun w h=>?_
 refine cs (ca en_216 rfl) ((alloc_x (j:=59) xb mb (Ct.X.of c x) (Ct.shrunk ((Ct.X.of c x).node m) c.key).1 q24 m ((SH.duN (h.fr (.c r1 (.c r3 .n))) .z).fr (.c r0 (.c r1 .n))) (k.less (by omega)) ((Ct.fit_shrunk f3 c.key).mono (by omega))).mono ?_)
 rintro _ w ⟨y26,v27,q28,rfl,h,k,hly26⟩
 obtain ⟨z29,rfl⟩:=Ct.keA q28
 have lq28:=Ct.leA q28
 refine ⟨_,rfl,(hC (h.ceX a0 fun _=>rfl) (hC (h.ceX a0 fun _=>rfl) (hC (h.at_ a2) hN))),?_⟩
 refine go h fun w h=>?_
 refine cs (ca en_167 rfl) ((gcas_any xb mb (Ct.X.of c z29) c.trie i m v27 (h.fr (.c r0 .n)) (k.less (by omega))).mono ?_)
 rintro _ w ⟨y30,v31,q32,rfl,h,k⟩
 obtain ⟨z33,rfl⟩:=Ct.keB q32
 have lq32:=Ct.leB q32
 refine ⟨_,rfl,(hC (h.ceX a0 fun _=>rfl) (hC (h.ceX a0 fun _=>rfl) (hC (h.at_ a2) hN))),?_⟩
 refine go h fun w h=>?_
 refine cs (ca en_263 rfl) ((swapped_any _ v31 true (Ct.pfind ((Ct.X.of c x).node m).pairs c.key).1 (h.fr .n)).mono ?_)
 rintro _ w ⟨rfl,h⟩
 refine ⟨_,rfl,(hC (h.ceX a0 fun _=>rfl) (hC (h.ceX a0 fun _=>rfl) (hC (h.at_ a2) hN))),?_⟩
 refine tk (fun W H=>xr rfl rfl)<|tk (fun W H=>xr rfl rfl)<|?_
 refine ff (so h rfl rfl rfl sz_43 rfl (.r (.r (.r (.r (.r (.r (.r (.r .d)))))))) u5)<|?_
 rintro _ w h
 refine ⟨(hC (h.ceX a0 fun _=>rfl) (hC (h.ceX a0 fun _=>rfl) (hC (h.at_ a2) hN))),?_⟩
 refine ef (sg rfl) ((hC (h.ceX a0 fun _=>rfl) (hC (h.ceX a0 fun _=>rfl) (hC (h.at_ a2) hN))))<|xz<|nx<|rt<|tr<|?_
 refine go h fun w h=>?_
 exact rr (resCt rfl rfl (h.b a5) Row.h rfl)<|⟨_,(Ct.swappedR true (Ct.pfind ((Ct.X.of c x).node m).pairs c.key).1,(bif v31 then 1 else 0)),Ct.rN<|Ct.rT hd5<|Ct.rnT hd9<|Ct.rF (by rw [hd10]; rfl)<|Ct.rA q28<|Ct.rB q32<|Ct.rR,rfl,h.to,k⟩
 have hg34:=ne_of_beq_false hd5
 refine go h fun w h=>?_
 refine cl (ca en_181 rfl) ((rslice_any ha lv _ (by omega)).mono ?_)
 rintro _ _ ⟨rfl,rfl⟩
 refine ⟨_,rfl,?_⟩
 refine st (sg rfl)<|xe<|nx<|sq<|rg<|st (ldr rfl (rows_all (h.b a0)) row_77)<|st (mv rfl)<|?_
 refine go h fun w h=>?_
 refine j000 (rlookup_any _ _ _ _ _ _ h.to (Ct.Node.Fit.nf f3 (by omega))) fun w h=>?_
 refine j100 (xnode_any _ _ _ _ h.to k.big') fun p35 w h=>?_
 have f36:=k.fitN (Ct.blookup ((Ct.X.of c x).node m) (Ct.slice ha lv)).1
 have bf36:=k.len
 refine go h fun w h=>?_
 refine jA h fun b37 w h=>?_
 refine qg h (fun hd38 w h=>?_) fun hd38 w h=>?_
 refine qc h (fun hd39 w h=>?_) fun hd39 w h=>?_
 have hg40:=eq_of_beq hd39
 refine go h fun w h=>?_
 exact rr (resCt rfl rfl (h.b a5) Row.h rfl)<|⟨_,({},2),Ct.rN<|Ct.rF hd5<|Ct.rN<|Ct.rT (by rw [hd38,hd39]; rfl)<|Ct.rR,rfl,h.to,k⟩
 have hg41:=ne_of_beq_false hd39
 refine go h fun w h=>?_
 refine qc h (fun hd42 w h=>?_) fun hd42 w h=>?_
 refine j000 (value_any _ _ h.to) fun w h=>?_
 exact rr (resCt rfl rfl (h.b a5) Row.h rfl)<|⟨_,(Ct.valueR false 0,1),Ct.rN<|Ct.rF hd5<|Ct.rN<|Ct.rF (by rw [hd38,hd39]; rfl)<|Ct.rnT hd38<|Ct.rT hd42<|Ct.rR,rfl,h.to,k⟩
 rcases Bool.eq_false_or_eq_true c.only with hd43 | hd43 <;> refine go h fun w h=>?_
 refine drH [1,3,5,7,9,11,13,15,17,19,21,23,25,27,29,30] (by kernel_rfl) h (.c r2 (.c r0 .n)) fun w h=>go h fun w h=>?_
 refine tk (fun W H=>ld (v:=.bool c.only) One.h rfl (H.xc a0 fun _=>rfl))<|go h fun w h=>?_
 refine tk (fun W H=>ld (v:=.int .u64 ((c.expect : Nat) : Int)) One.h rfl (H.xc a0 fun _=>rfl))<|go h fun w h=>?_
 refine qc h (fun hd44 w h=>?_) fun hd44 w h=>?_
 have hg45:=bne_iff_ne.1 hd44
 refine go h fun w h=>?_
 refine j000 (value_any _ _ h.to) fun w h=>?_
 exact rr (resCt rfl rfl (h.b a5) Row.h rfl)<|⟨_,(Ct.valueR true ((Ct.X.of c x).node (Ct.blookup ((Ct.X.of c x).node m) (Ct.slice ha lv)).1).value,1),Ct.rN<|Ct.rF hd5<|Ct.rN<|Ct.rF (by rw [hd38,hd39]; rfl)<|Ct.rnT hd38<|Ct.rF hd42<|Ct.rT (by rw [hd43,← Ct.natbne]; exact hd44)<|Ct.rR,rfl,h.to,k⟩
 have hg46:=eq_of_bneF hd44
 refine go h fun w h=>?_
 refine j100 (rremoved_any _ _ _ h.to (Ct.Node.Fit.nf f3 (by omega))) fun q47 w h=>?_
 refine jA h fun b48 w h=>?_
 refine j000 (rsole_any _ _ _ _ _ h.to (Ct.Node.Fit.nf (Ct.fit_removed f3 (Ct.slice ha lv)) (by omega))) fun w h=>?_
 refine drC (F:=[ce xb 2 (.int .i64 c.trie.root),ce xb 3 (.bool c.trie.readOnly),bl b48 (nodeC (Ct.premoved ((Ct.X.of c x).node m) (Ct.slice ha lv)).1 q47) 77,bl b37 (nodeC ((Ct.X.of c x).node (Ct.blookup ((Ct.X.of c x).node m) (Ct.slice ha lv)).1) p35) 77]) [1,3,5,7,9,11,13,15,17,19,21,23,25,27,33,39,41,28,30,34,36,42,45,47,48,50] (by kernel_rfl) h (fun w h=>(hC (h.ceX a5 fun _=>rfl) (hC (h.ceX a5 fun _=>rfl) (hC (h.at_ a1) (hC (h.at_ a3) hN))))) fun w h=>go h fun w h=>?_
 refine tk (fun W H=>ldr (cs:=trieC c.trie) rfl (rows_ce2 (H.ce a0) (H.ce a1)) Row.h)<|go h fun w h=>?_
 refine cs (ca en_212 rfl) ((xnode_any xb mb (Ct.X.of c x) (Ct.bsole (Ct.premoved ((Ct.X.of c x).node m) (Ct.slice ha lv)).1).1 (h.fr (.c r5 .n)) k.big').mono ?_)
 rintro _ w ⟨p49,rfl,h⟩
 have f50:=k.fitN (Ct.bsole (Ct.premoved ((Ct.X.of c x).node m) (Ct.slice ha lv)).1).1
 have bf50:=k.len
 refine ⟨_,rfl,(hC (h.ceX a1 fun _=>rfl) (hC (h.ceX a1 fun _=>rfl) (hC (h.at_ a3) (hC (h.at_ a5) hN)))),?_⟩
 refine go h fun w h=>?_
 refine cs (ca en_221 rfl) ((rcontracted_any (Ct.premoved ((Ct.X.of c x).node m) (Ct.slice ha lv)).1 q47 lv ((Ct.X.of c x).node (Ct.bsole (Ct.premoved ((Ct.X.of c x).node m) (Ct.slice ha lv)).1).1) p49 (h.fr (.c r2 (.c r0 .n))) (Ct.Node.Fit.nf (Ct.fit_removed f3 (Ct.slice ha lv)) (by omega))).mono ?_)
 rintro _ w ⟨q51,rfl,h⟩
 refine ⟨_,rfl,(hC (h.ceX a3 fun _=>rfl) (hC (h.ceX a3 fun _=>rfl) (hC (h.at_ a4) (hC (h.at_ a6) hN)))),?_⟩
 refine go h fun w h=>?_
 refine cs (ca en_216 rfl) ((alloc_x (j:=59) xb mb (Ct.X.of c x) (Ct.contracted (Ct.premoved ((Ct.X.of c x).node m) (Ct.slice ha lv)).1 lv ((Ct.X.of c x).node (Ct.bsole (Ct.premoved ((Ct.X.of c x).node m) (Ct.slice ha lv)).1).1)) q51 m ((SH.duN (h.fr (.c r0 (.c r2 .n))) .z).fr (.c r0 (.c r1 .n))) (k.less (by omega)) (Ct.fit_contracted ((Ct.fit_removed f3 (Ct.slice ha lv)).mono (by omega)) (f50.mono (by omega)) lv)).mono ?_)
 rintro _ w ⟨y52,v53,q54,rfl,h,k,hly52⟩
 obtain ⟨z55,rfl⟩:=Ct.keA q54
 have lq54:=Ct.leA q54
 refine ⟨_,rfl,(hC (h.ceX a0 fun _=>rfl) (hC (h.ceX a0 fun _=>rfl) (hC (h.at_ a4) (hC (h.at_ a6) hN)))),?_⟩
 refine go h fun w h=>?_
 refine cs (ca en_167 rfl) ((gcas_any xb mb (Ct.X.of c z55) c.trie i m v53 (h.fr (.c r0 .n)) (k.less (by omega))).mono ?_)
 rintro _ w ⟨y56,v57,q58,rfl,h,k⟩
 obtain ⟨z59,rfl⟩:=Ct.keB q58
 have lq58:=Ct.leB q58
 refine ⟨_,rfl,(hC (h.ceX a0 fun _=>rfl) (hC (h.ceX a0 fun _=>rfl) (hC (h.at_ a4) (hC (h.at_ a6) hN)))),?_⟩
 refine go h fun w h=>?_
 refine cs (ca en_263 rfl) ((swapped_any _ v57 true ((Ct.X.of c x).node (Ct.blookup ((Ct.X.of c x).node m) (Ct.slice ha lv)).1).value (h.fr .n)).mono ?_)
 rintro _ w ⟨rfl,h⟩
 refine ⟨_,rfl,(hC (h.ceX a0 fun _=>rfl) (hC (h.ceX a0 fun _=>rfl) (hC (h.at_ a4) (hC (h.at_ a6) hN)))),?_⟩
 refine tk (fun W H=>xr rfl rfl)<|tk (fun W H=>xr rfl rfl)<|?_
 refine ff (so h rfl rfl rfl sz_43 rfl (.r (.r (.r (.r (.r (.r (.r (.r .d)))))))) u9)<|?_
 rintro _ w h
 refine ⟨(hC (h.ceX a0 fun _=>rfl) (hC (h.ceX a0 fun _=>rfl) (hC (h.at_ a4) (hC (h.at_ a6) hN)))),?_⟩
 refine ef (sg rfl) ((hC (h.ceX a0 fun _=>rfl) (hC (h.ceX a0 fun _=>rfl) (hC (h.at_ a4) (hC (h.at_ a6) hN)))))<|xz<|nx<|rt<|?_
 refine go h fun w h=>?_
 exact rr (resCt rfl rfl (h.b a9) Row.h rfl)<|⟨_,(Ct.swappedR true ((Ct.X.of c x).node (Ct.blookup ((Ct.X.of c x).node m) (Ct.slice ha lv)).1).value,(bif v57 then 1 else 0)),Ct.rN<|Ct.rF hd5<|Ct.rN<|Ct.rF (by rw [hd38,hd39]; rfl)<|Ct.rnT hd38<|Ct.rF hd42<|Ct.rF (by rw [hd43,← Ct.natbne]; exact hd44)<|Ct.rN<|Ct.rA q54<|Ct.rB q58<|Ct.rR,rfl,h.to,k⟩
 refine drH [1,3,5,7,9,11,13,15,17,19,21,23,25,27,29,30] (by kernel_rfl) h (.c r2 .n) fun w h=>go h fun w h=>?_
 refine tk (fun W H=>ld (v:=.bool c.only) One.h rfl (H.xc a0 fun _=>rfl))<|go h fun w h=>?_
 refine j100 (rremoved_any _ _ _ h.to (Ct.Node.Fit.nf f3 (by omega))) fun q60 w h=>?_
 refine jA h fun b61 w h=>?_
 refine j000 (rsole_any _ _ _ _ _ h.to (Ct.Node.Fit.nf (Ct.fit_removed f3 (Ct.slice ha lv)) (by omega))) fun w h=>?_
 refine drC (F:=[ce xb 2 (.int .i64 c.trie.root),ce xb 3 (.bool c.trie.readOnly),bl b61 (nodeC (Ct.premoved ((Ct.X.of c x).node m) (Ct.slice ha lv)).1 q60) 77,bl b37 (nodeC ((Ct.X.of c x).node (Ct.blookup ((Ct.X.of c x).node m) (Ct.slice ha lv)).1) p35) 77]) [1,3,5,7,9,11,13,15,17,19,21,23,25,27,33,39,41,28,30,34,36,42,45,47,48,50] (by kernel_rfl) h (fun w h=>(hC (h.ceX a5 fun _=>rfl) (hC (h.ceX a5 fun _=>rfl) (hC (h.at_ a1) (hC (h.at_ a3) hN))))) fun w h=>go h fun w h=>?_
 refine tk (fun W H=>ldr (cs:=trieC c.trie) rfl (rows_ce2 (H.ce a0) (H.ce a1)) Row.h)<|go h fun w h=>?_
 refine cs (ca en_212 rfl) ((xnode_any xb mb (Ct.X.of c x) (Ct.bsole (Ct.premoved ((Ct.X.of c x).node m) (Ct.slice ha lv)).1).1 (h.fr (.c r5 .n)) k.big').mono ?_)
 rintro _ w ⟨p62,rfl,h⟩
 have f63:=k.fitN (Ct.bsole (Ct.premoved ((Ct.X.of c x).node m) (Ct.slice ha lv)).1).1
 have bf63:=k.len
 refine ⟨_,rfl,(hC (h.ceX a1 fun _=>rfl) (hC (h.ceX a1 fun _=>rfl) (hC (h.at_ a3) (hC (h.at_ a5) hN)))),?_⟩
 refine go h fun w h=>?_
 refine cs (ca en_221 rfl) ((rcontracted_any (Ct.premoved ((Ct.X.of c x).node m) (Ct.slice ha lv)).1 q60 lv ((Ct.X.of c x).node (Ct.bsole (Ct.premoved ((Ct.X.of c x).node m) (Ct.slice ha lv)).1).1) p62 (h.fr (.c r2 (.c r0 .n))) (Ct.Node.Fit.nf (Ct.fit_removed f3 (Ct.slice ha lv)) (by omega))).mono ?_)
 rintro _ w ⟨q64,rfl,h⟩
 refine ⟨_,rfl,(hC (h.ceX a3 fun _=>rfl) (hC (h.ceX a3 fun _=>rfl) (hC (h.at_ a4) (hC (h.at_ a6) hN)))),?_⟩
 refine go h fun w h=>?_
 refine cs (ca en_216 rfl) ((alloc_x (j:=59) xb mb (Ct.X.of c x) (Ct.contracted (Ct.premoved ((Ct.X.of c x).node m) (Ct.slice ha lv)).1 lv ((Ct.X.of c x).node (Ct.bsole (Ct.premoved ((Ct.X.of c x).node m) (Ct.slice ha lv)).1).1)) q64 m ((SH.duN (h.fr (.c r0 (.c r2 .n))) .z).fr (.c r0 (.c r1 .n))) (k.less (by omega)) (Ct.fit_contracted ((Ct.fit_removed f3 (Ct.slice ha lv)).mono (by omega)) (f63.mono (by omega)) lv)).mono ?_)
 rintro _ w ⟨y65,v66,q67,rfl,h,k,hly65⟩
 obtain ⟨z68,rfl⟩:=Ct.keA q67
 have lq67:=Ct.leA q67
 refine ⟨_,rfl,(hC (h.ceX a0 fun _=>rfl) (hC (h.ceX a0 fun _=>rfl) (hC (h.at_ a4) (hC (h.at_ a6) hN)))),?_⟩
 refine go h fun w h=>?_
 refine cs (ca en_167 rfl) ((gcas_any xb mb (Ct.X.of c z68) c.trie i m v66 (h.fr (.c r0 .n)) (k.less (by omega))).mono ?_)
 rintro _ w ⟨y69,v70,q71,rfl,h,k⟩
 obtain ⟨z72,rfl⟩:=Ct.keB q71
 have lq71:=Ct.leB q71
 refine ⟨_,rfl,(hC (h.ceX a0 fun _=>rfl) (hC (h.ceX a0 fun _=>rfl) (hC (h.at_ a4) (hC (h.at_ a6) hN)))),?_⟩
 refine go h fun w h=>?_
 refine cs (ca en_263 rfl) ((swapped_any _ v70 true ((Ct.X.of c x).node (Ct.blookup ((Ct.X.of c x).node m) (Ct.slice ha lv)).1).value (h.fr .n)).mono ?_)
 rintro _ w ⟨rfl,h⟩
 refine ⟨_,rfl,(hC (h.ceX a0 fun _=>rfl) (hC (h.ceX a0 fun _=>rfl) (hC (h.at_ a4) (hC (h.at_ a6) hN)))),?_⟩
 refine tk (fun W H=>xr rfl rfl)<|tk (fun W H=>xr rfl rfl)<|?_
 refine ff (so h rfl rfl rfl sz_43 rfl (.r (.r (.r (.r (.r (.r (.r (.r .d)))))))) u9)<|?_
 rintro _ w h
 refine ⟨(hC (h.ceX a0 fun _=>rfl) (hC (h.ceX a0 fun _=>rfl) (hC (h.at_ a4) (hC (h.at_ a6) hN)))),?_⟩
 refine ef (sg rfl) ((hC (h.ceX a0 fun _=>rfl) (hC (h.ceX a0 fun _=>rfl) (hC (h.at_ a4) (hC (h.at_ a6) hN)))))<|xz<|nx<|rt<|?_
 refine go h fun w h=>?_
 exact rr (resCt rfl rfl (h.b a9) Row.h rfl)<|⟨_,(Ct.swappedR true ((Ct.X.of c x).node (Ct.blookup ((Ct.X.of c x).node m) (Ct.slice ha lv)).1).value,(bif v70 then 1 else 0)),Ct.rN<|Ct.rF hd5<|Ct.rN<|Ct.rF (by rw [hd38,hd39]; rfl)<|Ct.rnT hd38<|Ct.rF hd42<|Ct.rF (by rw [hd43]; rfl)<|Ct.rN<|Ct.rA q67<|Ct.rB q71<|Ct.rR,rfl,h.to,k⟩
 refine j000 (value_any _ _ h.to) fun w h=>?_
 exact rr (resCt rfl rfl (h.b a5) Row.h rfl)<|⟨_,(Ct.valueR false 0,1),Ct.rN<|Ct.rF hd5<|Ct.rN<|Ct.rF (by rw [hd38]; rfl)<|Ct.rnF hd38<|Ct.rR,rfl,h.to,k⟩
 refine jB h fun b73 w h=>?_
 refine s100 (xnode_any _ _ _ _ h.to k.big') fun p74 w h=>?_
 have f75:=k.fitN m
 have bf75:=k.len
 refine go h fun w h=>?_
 refine qc h (fun hd76 w h=>?_) fun hd76 w h=>?_
 have hg77:=eq_of_beq hd76
 refine go h fun w h=>?_
 have h:=SH.se (l:=[branchR ((Ct.X.of c x).node m) p74,pairR ((Ct.X.of c x).node m) p74]) h
 have hpv:=(Ct.valid_vf (((Ct.Node.Fit.nf f75 (by omega))).v6 (eq_of_beq hd76))).sorted (eq_of_beq hd76)
 have hpl:=((Ct.Node.Fit.nf f75 (by omega))).pr
 refine go h fun w h=>?_
 refine j000 (rfind_any _ _ _ _ h.to hpv (by omega)) fun w h=>?_
 have h:=SH.is (l:=[branchR ((Ct.X.of c x).node m) p74,pairR ((Ct.X.of c x).node m) p74]) (h.fr (.c r1 (.c r0 .n)))
 refine go h fun w h=>?_
 refine qg h (fun hd78 w h=>?_) fun hd78 w h=>?_
 have hd79 : (Ct.pfind ((Ct.X.of c x).node m).pairs c.key).2=false:=by simpa using hd78
 refine go h fun w h=>?_
 refine j000 (value_any _ _ h.to) fun w h=>?_
 exact rr (resCt rfl rfl (h.b a3) Row.h rfl)<|⟨_,(Ct.valueR (Ct.pfind ((Ct.X.of c x).node m).pairs c.key).2 (Ct.pfind ((Ct.X.of c x).node m).pairs c.key).1,1),Ct.rN<|Ct.rT hd76<|Ct.rnF hd79<|Ct.rR,rfl,h.to,k⟩
 have hd80 : (Ct.pfind ((Ct.X.of c x).node m).pairs c.key).2=true:=by simpa using hd78
 refine go h fun w h=>?_
 refine st (ld (v:=.bool c.only) One.h rfl (h.xc a1 fun _=>rfl))<|go h fun w h=>?_
 refine qg h (fun hd81 w h=>?_) fun hd81 w h=>?_
 refine st (ld (v:=.int .u64 ((c.expect : Nat) : Int)) One.h rfl (h.xc a1 fun _=>rfl))<|go h fun w h=>?_
 refine qc h (fun hd82 w h=>?_) fun hd82 w h=>?_
 have hg83:=bne_iff_ne.1 hd82
 refine go h fun w h=>?_
 refine j000 (value_any _ _ h.to) fun w h=>?_
 exact rr (resCt rfl rfl (h.b a3) Row.h rfl)<|⟨_,(Ct.valueR (Ct.pfind ((Ct.X.of c x).node m).pairs c.key).2 (Ct.pfind ((Ct.X.of c x).node m).pairs c.key).1,1),Ct.rN<|Ct.rT hd76<|Ct.rnT hd80<|Ct.rT (by rw [hd81,← Ct.natbne]; exact hd82)<|Ct.rR,rfl,h.to,k⟩
 have hg84:=eq_of_bneF hd82
 refine go h fun w h=>?_
 refine j100 (rshrunk_any _ _ _ _ _ _ h.to (Ct.Node.Fit.nf f75 (by omega)) (Ct.isL_yes hd76 (((Ct.Node.Fit.nf f75 (by omega))).v6 (eq_of_beq hd76)))) fun q85 w h=>?_
 refine jA h fun b86 w h=>?_
 refine drC (F:=[ce xb 2 (.int .i64 c.trie.root),ce xb 3 (.bool c.trie.readOnly),bl b86 (nodeC (Ct.shrunk ((Ct.X.of c x).node m) c.key).1 q85) 77]) [1,3,5,7,9,11,13,15,17,19,21,23,29,24,26,30,33,35,36,38] (by kernel_rfl) h (fun w h=>(hC (h.ceX a3 fun _=>rfl) (hC (h.ceX a3 fun _=>rfl) (hC (h.at_ a0) hN)))) fun w h=>go h fun w h=>?_
 refine tk (fun W H=>ldr (cs:=trieC c.trie) rfl (rows_ce2 (H.ce a0) (H.ce a1)) Row.h)<|go h fun w h=>?_
 refine cs (ca en_216 rfl) ((alloc_x (j:=59) xb mb (Ct.X.of c x) (Ct.shrunk ((Ct.X.of c x).node m) c.key).1 q85 m ((SH.duN (h.fr (.c r1 (.c r2 .n))) .z).fr (.c r0 (.c r1 .n))) (k.less (by omega)) ((Ct.fit_shrunk f75 c.key).mono (by omega))).mono ?_)
 rintro _ w ⟨y87,v88,q89,rfl,h,k,hly87⟩
 obtain ⟨z90,rfl⟩:=Ct.keA q89
 have lq89:=Ct.leA q89
 refine ⟨_,rfl,(hC (h.ceX a0 fun _=>rfl) (hC (h.ceX a0 fun _=>rfl) (hC (h.at_ a2) hN))),?_⟩
 refine go h fun w h=>?_
 refine cs (ca en_167 rfl) ((gcas_any xb mb (Ct.X.of c z90) c.trie i m v88 (h.fr (.c r0 .n)) (k.less (by omega))).mono ?_)
 rintro _ w ⟨y91,v92,q93,rfl,h,k⟩
 obtain ⟨z94,rfl⟩:=Ct.keB q93
 have lq93:=Ct.leB q93
 refine ⟨_,rfl,(hC (h.ceX a0 fun _=>rfl) (hC (h.ceX a0 fun _=>rfl) (hC (h.at_ a2) hN))),?_⟩
 refine go h fun w h=>?_
 refine cs (ca en_263 rfl) ((swapped_any _ v92 true (Ct.pfind ((Ct.X.of c x).node m).pairs c.key).1 (h.fr .n)).mono ?_)
 rintro _ w ⟨rfl,h⟩
 refine ⟨_,rfl,(hC (h.ceX a0 fun _=>rfl) (hC (h.ceX a0 fun _=>rfl) (hC (h.at_ a2) hN))),?_⟩
 refine tk (fun W H=>xr rfl rfl)<|tk (fun W H=>xr rfl rfl)<|?_
 refine ff (so h rfl rfl rfl sz_43 rfl (.r (.r (.r (.r (.r (.r (.r (.r .d)))))))) u5)<|?_
 rintro _ w h
 refine ⟨(hC (h.ceX a0 fun _=>rfl) (hC (h.ceX a0 fun _=>rfl) (hC (h.at_ a2) hN))),?_⟩
 refine ef (sg rfl) ((hC (h.ceX a0 fun _=>rfl) (hC (h.ceX a0 fun _=>rfl) (hC (h.at_ a2) hN))))<|xz<|nx<|rt<|tr<|?_
 refine go h fun w h=>?_
 exact rr (resCt rfl rfl (h.b a5) Row.h rfl)<|⟨_,(Ct.swappedR true (Ct.pfind ((Ct.X.of c x).node m).pairs c.key).1,(bif v92 then 1 else 0)),Ct.rN<|Ct.rT hd76<|Ct.rnT hd80<|Ct.rF (by rw [hd81,← Ct.natbne]; exact hd82)<|Ct.rA q89<|Ct.rB q93<|Ct.rR,rfl,h.to,k⟩
 refine j100 (rshrunk_any _ _ _ _ _ _ h.to (Ct.Node.Fit.nf f75 (by omega)) (Ct.isL_yes hd76 (((Ct.Node.Fit.nf f75 (by omega))).v6 (eq_of_beq hd76)))) fun q95 w h=>?_
 refine jA h fun b96 w h=>?_
 refine drC (F:=[ce xb 2 (.int .i64 c.trie.root),ce xb 3 (.bool c.trie.readOnly),bl b96 (nodeC (Ct.shrunk ((Ct.X.of c x).node m) c.key).1 q95) 77]) [1,3,5,7,9,11,13,15,17,19,21,23,29,24,26,30,33,35,36,38] (by kernel_rfl) h (fun w h=>(hC (h.ceX a3 fun _=>rfl) (hC (h.ceX a3 fun _=>rfl) (hC (h.at_ a0) hN)))) fun w h=>go h fun w h=>?_
 refine tk (fun W H=>ldr (cs:=trieC c.trie) rfl (rows_ce2 (H.ce a0) (H.ce a1)) Row.h)<|go h fun w h=>?_
 refine cs (ca en_216 rfl) ((alloc_x (j:=59) xb mb (Ct.X.of c x) (Ct.shrunk ((Ct.X.of c x).node m) c.key).1 q95 m ((SH.duN (h.fr (.c r1 (.c r2 .n))) .z).fr (.c r0 (.c r1 .n))) (k.less (by omega)) ((Ct.fit_shrunk f75 c.key).mono (by omega))).mono ?_)
 rintro _ w ⟨y97,v98,q99,rfl,h,k,hly97⟩
 obtain ⟨z100,rfl⟩:=Ct.keA q99
 have lq99:=Ct.leA q99
 refine ⟨_,rfl,(hC (h.ceX a0 fun _=>rfl) (hC (h.ceX a0 fun _=>rfl) (hC (h.at_ a2) hN))),?_⟩
 refine go h fun w h=>?_
 refine cs (ca en_167 rfl) ((gcas_any xb mb (Ct.X.of c z100) c.trie i m v98 (h.fr (.c r0 .n)) (k.less (by omega))).mono ?_)
 rintro _ w ⟨y101,v102,q103,rfl,h,k⟩
 obtain ⟨z104,rfl⟩:=Ct.keB q103
 have lq103:=Ct.leB q103
 refine ⟨_,rfl,(hC (h.ceX a0 fun _=>rfl) (hC (h.ceX a0 fun _=>rfl) (hC (h.at_ a2) hN))),?_⟩
 refine go h fun w h=>?_
 refine cs (ca en_263 rfl) ((swapped_any _ v102 true (Ct.pfind ((Ct.X.of c x).node m).pairs c.key).1 (h.fr .n)).mono ?_)
 rintro _ w ⟨rfl,h⟩
 refine ⟨_,rfl,(hC (h.ceX a0 fun _=>rfl) (hC (h.ceX a0 fun _=>rfl) (hC (h.at_ a2) hN))),?_⟩
 refine tk (fun W H=>xr rfl rfl)<|tk (fun W H=>xr rfl rfl)<|?_
 refine ff (so h rfl rfl rfl sz_43 rfl (.r (.r (.r (.r (.r (.r (.r (.r .d)))))))) u5)<|?_
 rintro _ w h
 refine ⟨(hC (h.ceX a0 fun _=>rfl) (hC (h.ceX a0 fun _=>rfl) (hC (h.at_ a2) hN))),?_⟩
 refine ef (sg rfl) ((hC (h.ceX a0 fun _=>rfl) (hC (h.ceX a0 fun _=>rfl) (hC (h.at_ a2) hN))))<|xz<|nx<|rt<|tr<|?_
 refine go h fun w h=>?_
 exact rr (resCt rfl rfl (h.b a5) Row.h rfl)<|⟨_,(Ct.swappedR true (Ct.pfind ((Ct.X.of c x).node m).pairs c.key).1,(bif v102 then 1 else 0)),Ct.rN<|Ct.rT hd76<|Ct.rnT hd80<|Ct.rF (by rw [hd81]; rfl)<|Ct.rA q99<|Ct.rB q103<|Ct.rR,rfl,h.to,k⟩
 have hg105:=ne_of_beq_false hd76
 refine go h fun w h=>?_
 refine cl (ca en_181 rfl) ((rslice_any ha lv _ (by omega)).mono ?_)
 rintro _ _ ⟨rfl,rfl⟩
 refine ⟨_,rfl,?_⟩
 refine st (sg rfl)<|xe<|nx<|sq<|rg<|st (ldr rfl (rows_all (h.b a2)) row_77)<|st (mv rfl)<|?_
 refine go h fun w h=>?_
 refine j000 (rlookup_any _ _ _ _ _ _ h.to (Ct.Node.Fit.nf f75 (by omega))) fun w h=>?_
 refine j100 (xnode_any _ _ _ _ h.to k.big') fun p106 w h=>?_
 have f107:=k.fitN (Ct.blookup ((Ct.X.of c x).node m) (Ct.slice ha lv)).1
 have bf107:=k.len
 refine go h fun w h=>?_
 refine jA h fun b108 w h=>?_
 refine qg h (fun hd109 w h=>?_) fun hd109 w h=>?_
 refine qc h (fun hd110 w h=>?_) fun hd110 w h=>?_
 have hg111:=eq_of_beq hd110
 refine go h fun w h=>?_
 exact rr (resCt rfl rfl (h.b a5) Row.h rfl)<|⟨_,({},2),Ct.rN<|Ct.rF hd76<|Ct.rN<|Ct.rT (by rw [hd109,hd110]; rfl)<|Ct.rR,rfl,h.to,k⟩
 have hg112:=ne_of_beq_false hd110
 refine go h fun w h=>?_
 refine qc h (fun hd113 w h=>?_) fun hd113 w h=>?_
 refine j000 (value_any _ _ h.to) fun w h=>?_
 exact rr (resCt rfl rfl (h.b a5) Row.h rfl)<|⟨_,(Ct.valueR false 0,1),Ct.rN<|Ct.rF hd76<|Ct.rN<|Ct.rF (by rw [hd109,hd110]; rfl)<|Ct.rnT hd109<|Ct.rT hd113<|Ct.rR,rfl,h.to,k⟩
 rcases Bool.eq_false_or_eq_true c.only with hd114 | hd114 <;> refine go h fun w h=>?_
 refine drH [1,3,5,7,9,11,13,15,17,19,21,23,25,27,29,30] (by kernel_rfl) h (.c r2 (.c r0 .n)) fun w h=>go h fun w h=>?_
 refine tk (fun W H=>ld (v:=.bool c.only) One.h rfl (H.xc a0 fun _=>rfl))<|go h fun w h=>?_
 refine tk (fun W H=>ld (v:=.int .u64 ((c.expect : Nat) : Int)) One.h rfl (H.xc a0 fun _=>rfl))<|go h fun w h=>?_
 refine qc h (fun hd115 w h=>?_) fun hd115 w h=>?_
 have hg116:=bne_iff_ne.1 hd115
 refine go h fun w h=>?_
 refine j000 (value_any _ _ h.to) fun w h=>?_
 exact rr (resCt rfl rfl (h.b a5) Row.h rfl)<|⟨_,(Ct.valueR true ((Ct.X.of c x).node (Ct.blookup ((Ct.X.of c x).node m) (Ct.slice ha lv)).1).value,1),Ct.rN<|Ct.rF hd76<|Ct.rN<|Ct.rF (by rw [hd109,hd110]; rfl)<|Ct.rnT hd109<|Ct.rF hd113<|Ct.rT (by rw [hd114,← Ct.natbne]; exact hd115)<|Ct.rR,rfl,h.to,k⟩
 have hg117:=eq_of_bneF hd115
 refine go h fun w h=>?_
 refine j100 (rremoved_any _ _ _ h.to (Ct.Node.Fit.nf f75 (by omega))) fun q118 w h=>?_
 refine jA h fun b119 w h=>?_
 refine j000 (rsole_any _ _ _ _ _ h.to (Ct.Node.Fit.nf (Ct.fit_removed f75 (Ct.slice ha lv)) (by omega))) fun w h=>?_
 refine drC (F:=[ce xb 2 (.int .i64 c.trie.root),ce xb 3 (.bool c.trie.readOnly),bl b119 (nodeC (Ct.premoved ((Ct.X.of c x).node m) (Ct.slice ha lv)).1 q118) 77,bl b108 (nodeC ((Ct.X.of c x).node (Ct.blookup ((Ct.X.of c x).node m) (Ct.slice ha lv)).1) p106) 77]) [1,3,5,7,9,11,13,15,17,19,21,23,25,27,33,39,41,28,30,34,36,42,45,47,48,50] (by kernel_rfl) h (fun w h=>(hC (h.ceX a5 fun _=>rfl) (hC (h.ceX a5 fun _=>rfl) (hC (h.at_ a1) (hC (h.at_ a3) hN))))) fun w h=>go h fun w h=>?_
 refine tk (fun W H=>ldr (cs:=trieC c.trie) rfl (rows_ce2 (H.ce a0) (H.ce a1)) Row.h)<|go h fun w h=>?_
 refine cs (ca en_212 rfl) ((xnode_any xb mb (Ct.X.of c x) (Ct.bsole (Ct.premoved ((Ct.X.of c x).node m) (Ct.slice ha lv)).1).1 (h.fr (.c r5 .n)) k.big').mono ?_)
 rintro _ w ⟨p120,rfl,h⟩
 have f121:=k.fitN (Ct.bsole (Ct.premoved ((Ct.X.of c x).node m) (Ct.slice ha lv)).1).1
 have bf121:=k.len
 refine ⟨_,rfl,(hC (h.ceX a1 fun _=>rfl) (hC (h.ceX a1 fun _=>rfl) (hC (h.at_ a3) (hC (h.at_ a5) hN)))),?_⟩
 refine go h fun w h=>?_
 refine cs (ca en_221 rfl) ((rcontracted_any (Ct.premoved ((Ct.X.of c x).node m) (Ct.slice ha lv)).1 q118 lv ((Ct.X.of c x).node (Ct.bsole (Ct.premoved ((Ct.X.of c x).node m) (Ct.slice ha lv)).1).1) p120 (h.fr (.c r2 (.c r0 .n))) (Ct.Node.Fit.nf (Ct.fit_removed f75 (Ct.slice ha lv)) (by omega))).mono ?_)
 rintro _ w ⟨q122,rfl,h⟩
 refine ⟨_,rfl,(hC (h.ceX a3 fun _=>rfl) (hC (h.ceX a3 fun _=>rfl) (hC (h.at_ a4) (hC (h.at_ a6) hN)))),?_⟩
 refine go h fun w h=>?_
 refine cs (ca en_216 rfl) ((alloc_x (j:=59) xb mb (Ct.X.of c x) (Ct.contracted (Ct.premoved ((Ct.X.of c x).node m) (Ct.slice ha lv)).1 lv ((Ct.X.of c x).node (Ct.bsole (Ct.premoved ((Ct.X.of c x).node m) (Ct.slice ha lv)).1).1)) q122 m ((SH.duN (h.fr (.c r0 (.c r2 .n))) .z).fr (.c r0 (.c r1 .n))) (k.less (by omega)) (Ct.fit_contracted ((Ct.fit_removed f75 (Ct.slice ha lv)).mono (by omega)) (f121.mono (by omega)) lv)).mono ?_)
 rintro _ w ⟨y123,v124,q125,rfl,h,k,hly123⟩
 obtain ⟨z126,rfl⟩:=Ct.keA q125
 have lq125:=Ct.leA q125
 refine ⟨_,rfl,(hC (h.ceX a0 fun _=>rfl) (hC (h.ceX a0 fun _=>rfl) (hC (h.at_ a4) (hC (h.at_ a6) hN)))),?_⟩
 refine go h fun w h=>?_
 refine cs (ca en_167 rfl) ((gcas_any xb mb (Ct.X.of c z126) c.trie i m v124 (h.fr (.c r0 .n)) (k.less (by omega))).mono ?_)
 rintro _ w ⟨y127,v128,q129,rfl,h,k⟩
 obtain ⟨z130,rfl⟩:=Ct.keB q129
 have lq129:=Ct.leB q129
 refine ⟨_,rfl,(hC (h.ceX a0 fun _=>rfl) (hC (h.ceX a0 fun _=>rfl) (hC (h.at_ a4) (hC (h.at_ a6) hN)))),?_⟩
 refine go h fun w h=>?_
 refine cs (ca en_263 rfl) ((swapped_any _ v128 true ((Ct.X.of c x).node (Ct.blookup ((Ct.X.of c x).node m) (Ct.slice ha lv)).1).value (h.fr .n)).mono ?_)
 rintro _ w ⟨rfl,h⟩
 refine ⟨_,rfl,(hC (h.ceX a0 fun _=>rfl) (hC (h.ceX a0 fun _=>rfl) (hC (h.at_ a4) (hC (h.at_ a6) hN)))),?_⟩
 refine tk (fun W H=>xr rfl rfl)<|tk (fun W H=>xr rfl rfl)<|?_
 refine ff (so h rfl rfl rfl sz_43 rfl (.r (.r (.r (.r (.r (.r (.r (.r .d)))))))) u9)<|?_
 rintro _ w h
 refine ⟨(hC (h.ceX a0 fun _=>rfl) (hC (h.ceX a0 fun _=>rfl) (hC (h.at_ a4) (hC (h.at_ a6) hN)))),?_⟩
 refine ef (sg rfl) ((hC (h.ceX a0 fun _=>rfl) (hC (h.ceX a0 fun _=>rfl) (hC (h.at_ a4) (hC (h.at_ a6) hN)))))<|xz<|nx<|rt<|?_
 refine go h fun w h=>?_
 exact rr (resCt rfl rfl (h.b a9) Row.h rfl)<|⟨_,(Ct.swappedR true ((Ct.X.of c x).node (Ct.blookup ((Ct.X.of c x).node m) (Ct.slice ha lv)).1).value,(bif v128 then 1 else 0)),Ct.rN<|Ct.rF hd76<|Ct.rN<|Ct.rF (by rw [hd109,hd110]; rfl)<|Ct.rnT hd109<|Ct.rF hd113<|Ct.rF (by rw [hd114,← Ct.natbne]; exact hd115)<|Ct.rN<|Ct.rA q125<|Ct.rB q129<|Ct.rR,rfl,h.to,k⟩
 refine drH [1,3,5,7,9,11,13,15,17,19,21,23,25,27,29,30] (by kernel_rfl) h (.c r2 .n) fun w h=>go h fun w h=>?_
 refine tk (fun W H=>ld (v:=.bool c.only) One.h rfl (H.xc a0 fun _=>rfl))<|go h fun w h=>?_
 refine j100 (rremoved_any _ _ _ h.to (Ct.Node.Fit.nf f75 (by omega))) fun q131 w h=>?_
 refine jA h fun b132 w h=>?_
 refine j000 (rsole_any _ _ _ _ _ h.to (Ct.Node.Fit.nf (Ct.fit_removed f75 (Ct.slice ha lv)) (by omega))) fun w h=>?_
 refine drC (F:=[ce xb 2 (.int .i64 c.trie.root),ce xb 3 (.bool c.trie.readOnly),bl b132 (nodeC (Ct.premoved ((Ct.X.of c x).node m) (Ct.slice ha lv)).1 q131) 77,bl b108 (nodeC ((Ct.X.of c x).node (Ct.blookup ((Ct.X.of c x).node m) (Ct.slice ha lv)).1) p106) 77]) [1,3,5,7,9,11,13,15,17,19,21,23,25,27,33,39,41,28,30,34,36,42,45,47,48,50] (by kernel_rfl) h (fun w h=>(hC (h.ceX a5 fun _=>rfl) (hC (h.ceX a5 fun _=>rfl) (hC (h.at_ a1) (hC (h.at_ a3) hN))))) fun w h=>go h fun w h=>?_
 refine tk (fun W H=>ldr (cs:=trieC c.trie) rfl (rows_ce2 (H.ce a0) (H.ce a1)) Row.h)<|go h fun w h=>?_
 refine cs (ca en_212 rfl) ((xnode_any xb mb (Ct.X.of c x) (Ct.bsole (Ct.premoved ((Ct.X.of c x).node m) (Ct.slice ha lv)).1).1 (h.fr (.c r5 .n)) k.big').mono ?_)
 rintro _ w ⟨p133,rfl,h⟩
 have f134:=k.fitN (Ct.bsole (Ct.premoved ((Ct.X.of c x).node m) (Ct.slice ha lv)).1).1
 have bf134:=k.len
 refine ⟨_,rfl,(hC (h.ceX a1 fun _=>rfl) (hC (h.ceX a1 fun _=>rfl) (hC (h.at_ a3) (hC (h.at_ a5) hN)))),?_⟩
 refine go h fun w h=>?_
 refine cs (ca en_221 rfl) ((rcontracted_any (Ct.premoved ((Ct.X.of c x).node m) (Ct.slice ha lv)).1 q131 lv ((Ct.X.of c x).node (Ct.bsole (Ct.premoved ((Ct.X.of c x).node m) (Ct.slice ha lv)).1).1) p133 (h.fr (.c r2 (.c r0 .n))) (Ct.Node.Fit.nf (Ct.fit_removed f75 (Ct.slice ha lv)) (by omega))).mono ?_)
 rintro _ w ⟨q135,rfl,h⟩
 refine ⟨_,rfl,(hC (h.ceX a3 fun _=>rfl) (hC (h.ceX a3 fun _=>rfl) (hC (h.at_ a4) (hC (h.at_ a6) hN)))),?_⟩
 refine go h fun w h=>?_
 refine cs (ca en_216 rfl) ((alloc_x (j:=59) xb mb (Ct.X.of c x) (Ct.contracted (Ct.premoved ((Ct.X.of c x).node m) (Ct.slice ha lv)).1 lv ((Ct.X.of c x).node (Ct.bsole (Ct.premoved ((Ct.X.of c x).node m) (Ct.slice ha lv)).1).1)) q135 m ((SH.duN (h.fr (.c r0 (.c r2 .n))) .z).fr (.c r0 (.c r1 .n))) (k.less (by omega)) (Ct.fit_contracted ((Ct.fit_removed f75 (Ct.slice ha lv)).mono (by omega)) (f134.mono (by omega)) lv)).mono ?_)
 rintro _ w ⟨y136,v137,q138,rfl,h,k,hly136⟩
 obtain ⟨z139,rfl⟩:=Ct.keA q138
 have lq138:=Ct.leA q138
 refine ⟨_,rfl,(hC (h.ceX a0 fun _=>rfl) (hC (h.ceX a0 fun _=>rfl) (hC (h.at_ a4) (hC (h.at_ a6) hN)))),?_⟩
 refine go h fun w h=>?_
 refine cs (ca en_167 rfl) ((gcas_any xb mb (Ct.X.of c z139) c.trie i m v137 (h.fr (.c r0 .n)) (k.less (by omega))).mono ?_)
 rintro _ w ⟨y140,v141,q142,rfl,h,k⟩
 obtain ⟨z143,rfl⟩:=Ct.keB q142
 have lq142:=Ct.leB q142
 refine ⟨_,rfl,(hC (h.ceX a0 fun _=>rfl) (hC (h.ceX a0 fun _=>rfl) (hC (h.at_ a4) (hC (h.at_ a6) hN)))),?_⟩
 refine go h fun w h=>?_
 refine cs (ca en_263 rfl) ((swapped_any _ v141 true ((Ct.X.of c x).node (Ct.blookup ((Ct.X.of c x).node m) (Ct.slice ha lv)).1).value (h.fr .n)).mono ?_)
 rintro _ w ⟨rfl,h⟩
 refine ⟨_,rfl,(hC (h.ceX a0 fun _=>rfl) (hC (h.ceX a0 fun _=>rfl) (hC (h.at_ a4) (hC (h.at_ a6) hN)))),?_⟩
 refine tk (fun W H=>xr rfl rfl)<|tk (fun W H=>xr rfl rfl)<|?_
 refine ff (so h rfl rfl rfl sz_43 rfl (.r (.r (.r (.r (.r (.r (.r (.r .d)))))))) u9)<|?_
 rintro _ w h
 refine ⟨(hC (h.ceX a0 fun _=>rfl) (hC (h.ceX a0 fun _=>rfl) (hC (h.at_ a4) (hC (h.at_ a6) hN)))),?_⟩
 refine ef (sg rfl) ((hC (h.ceX a0 fun _=>rfl) (hC (h.ceX a0 fun _=>rfl) (hC (h.at_ a4) (hC (h.at_ a6) hN)))))<|xz<|nx<|rt<|?_
 refine go h fun w h=>?_
 exact rr (resCt rfl rfl (h.b a9) Row.h rfl)<|⟨_,(Ct.swappedR true ((Ct.X.of c x).node (Ct.blookup ((Ct.X.of c x).node m) (Ct.slice ha lv)).1).value,(bif v141 then 1 else 0)),Ct.rN<|Ct.rF hd76<|Ct.rN<|Ct.rF (by rw [hd109,hd110]; rfl)<|Ct.rnT hd109<|Ct.rF hd113<|Ct.rF (by rw [hd114]; rfl)<|Ct.rN<|Ct.rA q138<|Ct.rB q142<|Ct.rR,rfl,h.to,k⟩
 refine j000 (value_any _ _ h.to) fun w h=>?_
 exact rr (resCt rfl rfl (h.b a5) Row.h rfl)<|⟨_,(Ct.valueR false 0,1),Ct.rN<|Ct.rF hd76<|Ct.rN<|Ct.rF (by rw [hd109]; rfl)<|Ct.rnF hd109<|Ct.rR,rfl,h.to,k⟩
theorem up_any (xb mb : Nat) (x : Ct.X) (c : Ct.Call) (path : List Int) (ha : Nat) (p : Option Addr) (cp : Nat) (h : SH B w (XA xb mb (Ct.X.of c x)::rsl 1 (.slice p path.length cp) path.length (path.map (Value.int .i64))::L)) (k : Ct.Ok 60 (Ct.X.of c x)) (hh : ha<18446744073709551616) (hp : 1≤path.length) (hp2 : path.length≤1000000000000) :
  Calls Tryz.prog 227 #[.pointer (some ⟨xb,0,none⟩),.slice p path.length cp,.int .u64 ((ha : Nat) : Int)] w fun e w'=>∃ y v,Ct.runI (Ct.upI c.trie path ha (path.length - 1)) (Ct.X.of c x)=Ct.out y v∧e=.returned (.tuple #[])∧SH B w' (XA xb mb y::rsl 1 (.slice p path.length cp) path.length (path.map (Value.int .i64))::L)∧Ct.Ok 60 y:=by
 have hlen:=k.len
 refine bn0 Tryz.func227 Tryz.ntmps227 h fun w h=>?_
 refine st (bs ((path.length - 1 : Nat) : Int))<|go h fun w h=>?_
 refine lp (α:=Ct.X × Nat) (fun ρ=>(.c 0 (.pointer (some ⟨xb,0,none⟩)) (.c 1 (.slice p path.length cp) (.c 2 (.int .u64 ((ha : Nat) : Int)) (.c 6 (.int .i64 ((ρ.2 : Nat) : Int)) .n))))) (fun ρ w=>SH B w (XA xb mb (Ct.X.of c ρ.1)::rsl 1 (.slice p path.length cp) path.length (path.map (Value.int .i64))::L)∧(Ct.runI (Ct.upI c.trie path ha (path.length - 1)) (Ct.X.of c x)=Ct.runI (Ct.upI c.trie path ha ρ.2) (Ct.X.of c ρ.1))∧(Ct.Ok 60 (Ct.X.of c ρ.1))∧(ρ.2≤path.length - 1)) (fun ρ=>ρ.2) (x,path.length - 1) ⟨rfl,rfl,rfl,rfl,trivial⟩ ⟨h,rfl,k,Nat.le_refl _⟩ ?_
 rintro ⟨y,l⟩ w ⟨h,hq,k,hl⟩
 dsimp only at *
 refine go h fun w h=>?_
 refine qg h (fun hd1 w h=>?_) fun hd1 w h=>?_
 have hg2:=of_decide_eq_true hd1
 refine go h fun w h=>?_
 refine st (ld (v:=.bool (Ct.X.of c y).e.stopped) One.h rfl (h.xc a0 fun _=>rfl))<|go h fun w h=>?_
 refine qc h (fun hd3 w h=>?_) fun hd3 w h=>?_
 have hd4 : (Ct.X.of c y).e.stopped=false:=by simpa using hd3
 refine go h fun w h=>?_
 obtain ⟨l,rfl⟩ : ∃ k,l=k+1 :=⟨l - 1,by omega⟩
 obtain ⟨b5,o6,rfl⟩:=h.fq a1 (by omega)
 refine drC (F:=[ce xb 2 (.int .i64 c.trie.root),ce xb 3 (.bool c.trie.readOnly),rsl 1 (.slice (some ⟨b5,o6,none⟩) path.length cp) path.length (path.map (Value.int .i64))]) [1,3,5,7,9,11,13,15,17,19,20,22] (by kernel_rfl) h (fun w h=>(hC (h.ceX a0 fun _=>rfl) (hC (h.ceX a0 fun _=>rfl) (hC (h.at_ a1) hN)))) fun w h=>go h fun w h=>?_
 refine tk (fun W H=>ldr (cs:=trieC c.trie) rfl (rows_ce2 (H.ce a0) (H.ce a1)) Row.h)<|go h fun w h=>?_
 refine cs (ca en_166 rfl) ((read_any xb mb (Ct.X.of c y) c.trie (path.getD (l+1) 0) (h.fr (.c r0 .n)) (k.less (by omega))).mono ?_)
 rintro _ w ⟨y7,v8,q9,rfl,h,k⟩
 obtain ⟨z10,rfl⟩:=Ct.keB q9
 have lq9:=Ct.leB q9
 refine ⟨_,rfl,(hC (h.ceX a0 fun _=>rfl) (hC (h.ceX a0 fun _=>rfl) (hC (h.at_ a1) hN))),?_⟩
 refine ef (sg rfl) ((hC (h.ceX a0 fun _=>rfl) (hC (h.ceX a0 fun _=>rfl) (hC (h.at_ a1) hN))))<|xz<|nx<|sq<|sq<|rg<|st (mv rfl)<|st (nc rfl rfl)<|st (fa fo_115_11 rfl)<|?_
 refine go h fun w h=>?_
 refine st (ld (v:=.bool (Ct.X.of c z10).e.stopped) One.h rfl (h.xc a0 fun _=>rfl))<|go h fun w h=>?_
 refine qg h (fun hd11 w h=>?_) fun hd11 w h=>?_
 refine rr (res0 Tryz.results227)<|⟨_,(),hq.trans<|Ct.rB q9<|Ct.rS hd11,rfl,h,k.stop hd11⟩
 refine j100 (xnode_any _ _ _ _ h.to k.big') fun p12 w h=>?_
 have f13:=k.fitN v8
 have bf13:=k.len
 refine go h fun w h=>?_
 refine qc h (fun hd14 w h=>?_) fun hd14 w h=>?_
 have hg15:=bne_iff_ne.1 hd14
 refine go h fun w h=>?_
 refine rr (res0 Tryz.results227)<|⟨_,(),hq.trans<|Ct.rB q9<|Ct.rN<|Ct.rT hd14<|Ct.rR,rfl,h.drop,k⟩
 have hg16:=eq_of_bneF hd14
 refine go h fun w h=>?_
 refine drC (F:=[ce xb 2 (.int .i64 c.trie.root),ce xb 3 (.bool c.trie.readOnly),rsl 1 (.slice (some ⟨b5,o6,none⟩) path.length cp) path.length (path.map (Value.int .i64))]) [1,3,5,7,9,11,13,15,17,19,21,23,25,27,29,31,33,35,36] (by kernel_rfl) h (fun w h=>(hC (h.ceX a1 fun _=>rfl) (hC (h.ceX a1 fun _=>rfl) (hC (h.at_ a2) hN)))) fun w h=>go h fun w h=>?_
 refine tk (fun W H=>ldr (cs:=trieC c.trie) rfl (rows_ce2 (H.ce a0) (H.ce a1)) Row.h)<|go h fun w h=>?_
 refine tk (fun W H=>bs ((l : Nat) : Int))<|go h fun w h=>?_
 refine tk (fun W H=>bs ((l : Nat) : Int))<|go h fun w h=>?_
 refine cs (ca en_171 rfl) ((clean_any xb mb (Ct.X.of c z10) c.trie (path.getD l 0) (path.getD (l+1) 0) ha ((l : Nat) : Int) (h.fr (.c r1 .n)) (k.less (by omega)) hh).mono ?_)
 rintro _ w ⟨y17,v18,q19,rfl,h,k⟩
 obtain ⟨z20,rfl⟩:=Ct.keB q19
 have lq19:=Ct.leB q19
 refine ⟨_,rfl,(hC (h.ceX a0 fun _=>rfl) (hC (h.ceX a0 fun _=>rfl) (hC (h.at_ a2) hN))),?_⟩
 refine xz<|bn<|nx<|rg<|st (mv rfl)<|?_
 refine go h fun w h=>?_
 refine st (bs ((l : Nat) : Int))<|go h fun w h=>?_
 exact ⟨(z20,l),⟨rfl,rfl,rfl,rfl,trivial⟩,⟨h.to,hq.trans<|Ct.rB q9<|Ct.rN<|Ct.rF hd14<|Ct.rB q19<|rfl,k,by (try dsimp only); omega⟩,by (try dsimp only); omega⟩
 have hd21 : (Ct.X.of c y).e.stopped=true:=by simpa using hd3
 refine go h fun w h=>?_
 refine rn (res0 Tryz.results227)<|go h fun w h=>?_
 refine ⟨_,(),hq.trans<|Ct.rS hd21,rfl,h,k.stop hd21⟩
 have hg22:=of_decide_eq_false hd1
 refine go h fun w h=>?_
 refine rn (res0 rfl) ?_
 obtain rfl : l=0:=by omega
 exact ⟨_,(),hq.trans Ct.rR,rfl,h,k⟩
theorem drop_any (xb mb : Nat) (x : Ct.X) (c : Ct.Call) (F : Nat) (h : SH B w (XA xb mb (Ct.X.of c x)::L)) (k : Ct.Ok 60 (Ct.X.of c x)) (hx : (Ct.X.of c x).left<F) (hF : F≤100000000000) (hm : c.mask<18446744073709551616) (hky : c.key.size≤64) :
  Calls Tryz.prog 174 #[.pointer (some ⟨xb,0,none⟩)] w fun e w'=>∃ y v,Ct.runI (Ct.dropI c F F) (Ct.X.of c x)=Ct.out y v∧e=.returned (.agg (resV v).toArray)∧SH B w' (XA xb mb y::L)∧Ct.Ok 60 y:=by
 have hh:=Ct.hashOf_lt' c.key c.mask
 have hlen:=k.len
 refine bn0 Tryz.func174 Tryz.ntmps174 h fun w h=>?_
 refine jA h fun b1 w h=>?_
 refine drB (F:=[XA xb mb (Ct.X.of c x)]) [1,3,5,7,9,11,13,15,17,19,21,23,25,27,29] 15 16 [32,34,36] [30,34,36] (by kernel_rfl) h (fun w h=>(hC (h.at_ a1) hN)) fun w h=>go h fun w h=>?_
 refine tk (fun W H=>ldr (cs:=trieC c.trie) rfl (H.xr 2 a0 fun _=>rfl) Row.h)<|go h fun w h=>?_
 refine tk (fun W H=>ld (v:=.string c.key) One.h rfl (H.xc a0 fun _=>rfl))<|go h fun w h=>?_
 refine tk (fun W H=>ld (v:=.int .u64 ((c.mask : Nat) : Int)) One.h rfl (H.xc a0 fun _=>rfl))<|go h fun w h=>?_
 refine xzB ?_ ?_
 refine cs (ca en_117 rfl) ((rhash_any c.key c.mask _ (by omega) (by omega)).mono ?_)
 rintro _ _ ⟨rfl,rfl⟩
 refine ⟨_,rfl,(hC (h.at_ a1) hN),?_⟩
 refine go h fun w h=>?_
 refine jB h fun b2 w h=>?_
 refine lp (α:=Ct.X × Nat) (fun ρ=>(.c 0 (.pointer (some ⟨xb,0,none⟩)) (.c 2 (.pointer (some ⟨b1,0,none⟩)) (.c 3 (.pointer (some ⟨b2,0,none⟩)) (.c 4 (.int .u64 ((Ct.hashOf c.key c.mask : Nat) : Int)) .n))))) (fun ρ w=>SH B w (XA xb mb (Ct.X.of c ρ.1)::bl b2 (trieC c.trie) 35::bl b1 ([.int .i64 0,.bool false,.int .u64 0,.string .empty,.int .i64 0,.int .i64 0,.int .i64 0,.bool false]) 43::L)∧(Ct.runI (Ct.dropI c F F) (Ct.X.of c x)=Ct.runI (Ct.dropI c F ρ.2) (Ct.X.of c ρ.1))∧(Ct.Ok 60 (Ct.X.of c ρ.1))∧((Ct.X.of c ρ.1).e.stopped=true∨(Ct.X.of c ρ.1).left<ρ.2)∧(ρ.2≤F)) (fun ρ=>ρ.2) (x,F) ⟨rfl,rfl,rfl,rfl,trivial⟩ ⟨h.to,rfl,k,(.inr (by (try dsimp only); omega)),Nat.le_refl _⟩ ?_
 rintro ⟨y,n⟩ w ⟨h,hq,k,hn,hnF⟩
 dsimp only at *
 refine go h fun w h=>?_
 refine st (ld (v:=.bool (Ct.X.of c y).e.stopped) One.h rfl (h.xc a0 fun _=>rfl))<|go h fun w h=>?_
 refine qc h (fun hd3 w h=>?_) fun hd3 w h=>?_
 have hd4 : (Ct.X.of c y).e.stopped=false:=by simpa using hd3
 refine go h fun w h=>?_
 obtain ⟨n,rfl⟩ : ∃ k,n=k+1 :=⟨n - 1,by have:=hn.resolve_left (by rw [hd4]; decide); omega⟩
 replace hn:=hn.resolve_left (by rw [hd4]; decide)
 rw [Ct.dropI_succ] at hq
 refine go h fun w h=>?_
 have kb5:=k
 refine j211 (help_any _ _ _ _ h.to (k.less (by omega))) fun y6 v7 q8 w h k=>?_
 obtain ⟨z9,rfl⟩:=Ct.keB q8
 have lq8:=Ct.leB q8
 have ltq8:=Ct.lt_help kb5 (by omega) q8
 refine go h fun w h=>?_
 refine j100 (xnode_any _ _ _ _ h.to k.big') fun p10 w h=>?_
 have f11:=k.fitN v7
 have bf11:=k.len
 refine go h fun w h=>?_
 refine sf (bu [.int .i64 v7] h Slc.h Ss.h rfl (by kernel_rfl) rfl (by decide) (by decide)) ?_
 rintro _ w ⟨b12,rfl,h⟩
 refine go h fun w h=>?_
 refine lp (α:=Ct.X × Nat × List Int × Int × Int × Option Addr × Nat × Nat) (fun ρ=>(.c 0 (.pointer (some ⟨xb,0,none⟩)) (.c 2 (.pointer (some ⟨b1,0,none⟩)) (.c 3 (.pointer (some ⟨b2,0,none⟩)) (.c 4 (.int .u64 ((Ct.hashOf c.key c.mask : Nat) : Int)) (.c 5 (.int .i64 ρ.2.2.2.1) (.c 6 (.int .i64 ((Ct.X.of c z9).node v7).gen) (.c 7 (.slice ρ.2.2.2.2.2.1 ρ.2.2.2.2.2.2.1 ρ.2.2.2.2.2.2.2) (.c 8 (.int .i64 ρ.2.2.2.2.1) .n))))))))) (fun ρ w=>SH B w (XA xb mb (Ct.X.of c ρ.1)::osl 36 1 (.slice ρ.2.2.2.2.2.1 ρ.2.2.2.2.2.2.1 ρ.2.2.2.2.2.2.2) ρ.2.2.2.2.2.2.1 (ρ.2.2.1.map (Value.int .i64))::bl b2 (trieC c.trie) 35::bl b1 ([.int .i64 0,.bool false,.int .u64 0,.string .empty,.int .i64 0,.int .i64 0,.int .i64 0,.bool false]) 43::L)∧(Ct.runI (Ct.dropI c F F) (Ct.X.of c x)=Ct.runI ((Ct.dropIn c (Ct.hashOf c.key c.mask) ((Ct.X.of c z9).node v7).gen ρ.2.1 ρ.2.2.1 ρ.2.2.2.1 ρ.2.2.2.2.1).bind (Ct.dropK c F n)) (Ct.X.of c ρ.1))∧(Ct.Ok 60 (Ct.X.of c ρ.1))∧((Ct.X.of c ρ.1).e.stopped=true∨(Ct.X.of c ρ.1).left<ρ.2.1)∧((Ct.X.of c ρ.1).e.stopped=true∨(Ct.X.of c ρ.1).left<n)∧(0≤ρ.2.2.2.2.1∧ρ.2.2.2.2.1+((ρ.2.1 : Nat) : Int)≤((F : Nat) : Int))∧(ρ.2.2.1.length=ρ.2.2.2.2.2.2.1∧((ρ.2.2.2.2.2.2.1 : Nat) : Int)=ρ.2.2.2.2.1+1)) (fun ρ=>ρ.2.1) (z9,F,[v7],v7,0,some ⟨b12,0,none⟩,1,1) ⟨rfl,rfl,rfl,rfl,rfl,rfl,rfl,rfl,trivial⟩ ⟨(h.to.fr (.c r1 (.c r0 (.c r0 (.c r0 .n))))),(hq.trans<|Ct.rB q8<|Ct.rN<|rfl),k,(ltq8.imp id fun h=>by have:=h.2; (try dsimp only); omega),(ltq8.imp id fun h=>by have:=h.2; (try dsimp only); omega),⟨by (try dsimp only); omega,by (try dsimp only); omega⟩,⟨rfl,by (try dsimp only); omega⟩⟩ ?_
 rintro ⟨yi,kk,path,i,l,p,m,cp⟩ w ⟨h,hq,k,hn,ho,hl,hpl⟩
 dsimp only at *
 refine go h fun w h=>?_
 refine st (ld (v:=.bool (Ct.X.of c yi).e.stopped) One.h rfl (h.xc a0 fun _=>rfl))<|go h fun w h=>?_
 refine qc h (fun hd13 w h=>?_) fun hd13 w h=>?_
 have hd14 : (Ct.X.of c yi).e.stopped=false:=by simpa using hd13
 refine go h fun w h=>?_
 obtain ⟨kk,rfl⟩ : ∃ k,kk=k+1 :=⟨kk - 1,by have:=hn.resolve_left (by rw [hd14]; decide); omega⟩
 replace hn:=hn.resolve_left (by rw [hd14]; decide)
 replace ho:=ho.resolve_left (by rw [hd14]; decide)
 refine go h fun w h=>?_
 have kb15:=k
 refine j211 (read_any _ _ _ _ _ h.to (k.less (by omega))) fun y16 v17 q18 w h k=>?_
 obtain ⟨z19,rfl⟩:=Ct.keB q18
 have lq18:=Ct.leB q18
 have ltq18:=Ct.lt_read kb15 q18
 refine go h fun w h=>?_
 refine st (ld (v:=.bool (Ct.X.of c z19).e.stopped) One.h rfl (h.xc a0 fun _=>rfl))<|go h fun w h=>?_
 refine qc h (fun hd20 w h=>?_) fun hd20 w h=>?_
 exact ⟨(z19,n),⟨rfl,rfl,rfl,rfl,trivial⟩,⟨h.to,(hq.trans<|Ct.rBB q18<|Ct.rst hd20),k,(.inl hd20),by (try dsimp only); omega⟩,by (try dsimp only); omega⟩
 refine j100 (xnode_any _ _ _ _ h.to k.big') fun p21 w h=>?_
 have f22:=k.fitN v17
 have bf22:=k.len
 refine go h fun w h=>?_
 refine qc h (fun hd23 w h=>?_) fun hd23 w h=>?_
 have hg24:=eq_of_beq hd23
 refine go h fun w h=>?_
 obtain ⟨b25,rfl⟩:=h.fp a2 (by omega)
 refine drH [1,3,5,7,9,11,13,15,17,19,21,23,24] (by kernel_rfl) h (.c r3 (.c r2 .n)) fun w h=>go h fun w h=>?_
 refine tk (fun W H=>bw rfl rfl (wsub (c:=l - 1) (by omega) (by omega) (by omega)))<|tk (fun W H=>mx rfl rfl (by omega))<|tk (fun W H=>ix (j:=(l - 1).toNat) sl_60 sz_36 rfl rfl (by omega))<|?_
 refine tk (fun W H=>ld one_36 rfl ((H.ro a1).i (by omega)))<|tk (fun W H=>mv rfl)<|tk (fun W H=>mv rfl)<|tk (fun W H=>mv rfl)<|?_
 refine go h fun w h=>?_
 refine tk (fun W H=>bs (l - 1))<|go h fun w h=>?_
 have kb26:=k
 refine s211 (clean_any _ _ _ _ _ _ _ _ h.to (k.less (by omega)) hh) fun y27 v28 q29 w h k=>?_
 obtain ⟨z30,rfl⟩:=Ct.keB q29
 have lq29:=Ct.leB q29
 have ltq29:=Ct.le_good (Ct.good_clean _ _ _ _ _) kb26 (by omega) q29
 refine go h fun w h=>?_
 exact ⟨(z30,n),⟨rfl,rfl,rfl,rfl,trivial⟩,⟨h.to,(hq.trans<|Ct.rBB q18<|Ct.rNB<|Ct.rTB hd23<|Ct.rBB q29<|rfl),k,(.inr (by have:=(ltq18.resolve_left (by rw [hd20]; decide)).2; have:=ltq29; (try dsimp only); omega)),by (try dsimp only); omega⟩,by (try dsimp only); omega⟩
 have hg31:=ne_of_beq_false hd23
 refine go h fun w h=>?_
 have kb32:=k
 refine j211 (dropLeaf_any _ _ _ c _ _ _ _ h.to (k.less (by omega)) hh) fun y33 v34 q35 w h k=>?_
 obtain ⟨z36,rfl⟩:=Ct.keB q35
 have lq35:=Ct.leB q35
 have ltq35:=Ct.le_good (Ct.good_dropLeaf c _ _ _ _) kb32 (by omega) q35
 refine go h fun w h=>?_
 refine jA h fun b37 w h=>?_
 refine st (ld (v:=.bool (Ct.X.of c z36).e.stopped) One.h rfl (h.xc a1 fun _=>rfl))<|go h fun w h=>?_
 refine qc h (fun hd38 w h=>?_) fun hd38 w h=>?_
 exact ⟨(z36,n),⟨rfl,rfl,rfl,rfl,trivial⟩,⟨h.to,(hq.trans<|Ct.rBB q18<|Ct.rNB<|Ct.rFB hd23<|Ct.rBB q35<|Ct.rst hd38),k,(.inl hd38),by (try dsimp only); omega⟩,by (try dsimp only); omega⟩
 refine qc h (fun hd39 w h=>?_) fun hd39 w h=>?_
 have hg40:=eq_of_beq hd39
 refine go h fun w h=>?_
 refine qc h (fun hd41 w h=>?_) fun hd41 w h=>?_
 have hg42:=eq_of_beq hd41
 refine go h fun w h=>?_
 obtain rfl:=hpl.1
 refine j211 (up_any _ _ _ c _ _ _ _ ((SH.fz (h.to.fr (.c r1 .n))).fr (.c r1 .n)) (k.less (by omega)) hh (by omega) (by omega)) fun y43 v44 q45 w h k=>?_
 obtain ⟨z46,rfl⟩:=Ct.keB q45
 have lq45:=Ct.leB q45
 refine go h fun w h=>?_
 exact rr (resC rfl rfl (h.b a5) Row.h)<|⟨_,v34.1,hq.trans<|Ct.rBB q18<|Ct.rNB<|Ct.rFB hd23<|Ct.rBB q35<|Ct.rTB hd39<|Ct.rTB hd41<|Ct.rBB q45<|Ct.rR,rfl,h.to,k⟩
 have hg47:=ne_of_beq_false hd41
 refine go h fun w h=>?_
 exact rr (resC rfl rfl (h.b a5) Row.h)<|⟨_,v34.1,hq.trans<|Ct.rBB q18<|Ct.rNB<|Ct.rFB hd23<|Ct.rBB q35<|Ct.rTB hd39<|Ct.rFB hd41<|Ct.rR,rfl,h.to,k⟩
 have hg48:=ne_of_beq_false hd39
 refine go h fun w h=>?_
 refine qc h (fun hd49 w h=>?_) fun hd49 w h=>?_
 have hg50:=eq_of_beq hd49
 refine go h fun w h=>?_
 exact ⟨(z36,n),⟨rfl,rfl,rfl,rfl,trivial⟩,⟨h.to,(hq.trans<|Ct.rBB q18<|Ct.rNB<|Ct.rFB hd23<|Ct.rBB q35<|Ct.rFB hd39<|Ct.rTB hd49<|rfl),k,(.inr (by have:=(ltq18.resolve_left (by rw [hd20]; decide)).2; have:=ltq35; (try dsimp only); omega)),by (try dsimp only); omega⟩,by (try dsimp only); omega⟩
 have hg51:=ne_of_beq_false hd49
 refine go h fun w h=>?_
 refine cl (ca en_181 rfl) ((rslice_any (Ct.hashOf c.key c.mask) l _ (by omega)).mono ?_)
 rintro _ _ ⟨rfl,rfl⟩
 refine ⟨_,rfl,?_⟩
 refine st (mv rfl)<|?_
 refine go h fun w h=>?_
 have kb52:=k
 refine j211 (below_any _ _ _ c _ _ _ _ h.to (k.less (by omega)) ) fun y53 v54 q55 w h k=>?_
 obtain ⟨z56,rfl⟩:=Ct.keB q55
 have lq55:=Ct.leB q55
 have ltq55:=Ct.le_good (Ct.good_below _ _ _ _ _) kb52 (by omega) q55
 refine go h fun w h=>?_
 refine qc h (fun hd57 w h=>?_) fun hd57 w h=>?_
 have hg58:=eq_of_beq hd57
 refine go h fun w h=>?_
 exact ⟨(z56,n),⟨rfl,rfl,rfl,rfl,trivial⟩,⟨h.to,(hq.trans<|Ct.rBB q18<|Ct.rNB<|Ct.rFB hd23<|Ct.rBB q35<|Ct.rFB hd39<|Ct.rFB hd49<|Ct.rBB q55<|Ct.rTB hd57<|rfl),k,(.inr (by have:=(ltq18.resolve_left (by rw [hd20]; decide)).2; have:=ltq35; have:=ltq55; (try dsimp only); omega)),by (try dsimp only); omega⟩,by (try dsimp only); omega⟩
 have hg59:=ne_of_beq_false hd57
 refine go h fun w h=>?_
 refine sf (bu [.int .i64 v54] h Slc.h Ss.h rfl (by kernel_rfl) rfl (by decide) (by decide)) ?_
 rintro _ w ⟨b60,rfl,h⟩
 refine go h fun w h=>?_
 refine sf (ap h Slc.h rfl Ss.h rfl (by decide) rfl rfl (fun _=>u4) (h.ro a0) (by simp [Value.oneCell']) rfl (join_ints _ _) (by unfold maxLen; omega) (by omega)) ?_
 rintro _ w ⟨p61,c62,rfl,h⟩
 refine go h fun w h=>?_
 refine st (ba (l+1))<|go h fun w h=>?_
 exact ⟨(z56,kk,path ++ [v54],v54,l+1,p61,m+1,c62),⟨rfl,rfl,rfl,rfl,rfl,rfl,rfl,rfl,trivial⟩,⟨h.to,(hq.trans<|Ct.rBB q18<|Ct.rNB<|Ct.rFB hd23<|Ct.rBB q35<|Ct.rFB hd39<|Ct.rFB hd49<|Ct.rBB q55<|Ct.rFB hd57<|rfl),k,(.inr (by have:=(ltq18.resolve_left (by rw [hd20]; decide)).2; have:=ltq35; have:=ltq55; (try dsimp only); omega)),(.inr (by have:=(ltq18.resolve_left (by rw [hd20]; decide)).2; have:=ltq35; have:=ltq55; (try dsimp only); omega)),⟨by (try dsimp only); omega,by (try dsimp only); omega⟩,⟨by (try dsimp only); rw [List.length_append,hpl.1]; rfl,by (try dsimp only); omega⟩⟩,by (try dsimp only); omega⟩
 have hd63 : (Ct.X.of c yi).e.stopped=true:=by simpa using hd13
 refine go h fun w h=>?_
 exact ⟨(yi,n),⟨rfl,rfl,rfl,rfl,trivial⟩,⟨h.to,(hq.trans<|Ct.rst hd63),k,(.inl hd63),by (try dsimp only); omega⟩,by (try dsimp only); omega⟩
 have hd64 : (Ct.X.of c y).e.stopped=true:=by simpa using hd3
 refine go h fun w h=>?_
 exact rr (resC rfl rfl (h.b a2) Row.h)<|⟨_,{},hq.trans<|Ct.rS hd64,rfl,h.to,(k.stop hd64)⟩
 refine jB h fun b65 w h=>?_
 refine cs (ca en_117 rfl) ((rhash_any c.key c.mask _ (by omega) (by omega)).mono ?_)
 rintro _ _ ⟨rfl,rfl⟩
 refine ⟨_,rfl,(hC (h.at_ a2) hN),?_⟩
 refine ff (so h rfl rfl rfl sz_35 rfl (.r (.r .d)) u0)<|?_
 rintro _ w h
 refine ⟨(hC (h.at_ a2) hN),?_⟩
 refine ef (sg rfl) ((hC (h.at_ a2) hN))<|xz<|nx<|sq<|bk<|?_
 refine go h fun w h=>?_
 refine lp (α:=Ct.X × Nat) (fun ρ=>(.c 0 (.pointer (some ⟨xb,0,none⟩)) (.c 2 (.pointer (some ⟨b1,0,none⟩)) (.c 3 (.pointer (some ⟨b65,0,none⟩)) (.c 4 (.int .u64 ((Ct.hashOf c.key c.mask : Nat) : Int)) .n))))) (fun ρ w=>SH B w (XA xb mb (Ct.X.of c ρ.1)::bl b65 (trieC c.trie) 35::bl b1 ([.int .i64 0,.bool false,.int .u64 0,.string .empty,.int .i64 0,.int .i64 0,.int .i64 0,.bool false]) 43::L)∧(Ct.runI (Ct.dropI c F F) (Ct.X.of c x)=Ct.runI (Ct.dropI c F ρ.2) (Ct.X.of c ρ.1))∧(Ct.Ok 60 (Ct.X.of c ρ.1))∧((Ct.X.of c ρ.1).e.stopped=true∨(Ct.X.of c ρ.1).left<ρ.2)∧(ρ.2≤F)) (fun ρ=>ρ.2) (x,F) ⟨rfl,rfl,rfl,rfl,trivial⟩ ⟨h.to,rfl,k,(.inr (by (try dsimp only); omega)),Nat.le_refl _⟩ ?_
 rintro ⟨y,n⟩ w ⟨h,hq,k,hn,hnF⟩
 dsimp only at *
 refine go h fun w h=>?_
 refine st (ld (v:=.bool (Ct.X.of c y).e.stopped) One.h rfl (h.xc a0 fun _=>rfl))<|go h fun w h=>?_
 refine qc h (fun hd66 w h=>?_) fun hd66 w h=>?_
 have hd67 : (Ct.X.of c y).e.stopped=false:=by simpa using hd66
 refine go h fun w h=>?_
 obtain ⟨n,rfl⟩ : ∃ k,n=k+1 :=⟨n - 1,by have:=hn.resolve_left (by rw [hd67]; decide); omega⟩
 replace hn:=hn.resolve_left (by rw [hd67]; decide)
 rw [Ct.dropI_succ] at hq
 refine go h fun w h=>?_
 have kb68:=k
 refine j211 (help_any _ _ _ _ h.to (k.less (by omega))) fun y69 v70 q71 w h k=>?_
 obtain ⟨z72,rfl⟩:=Ct.keB q71
 have lq71:=Ct.leB q71
 have ltq71:=Ct.lt_help kb68 (by omega) q71
 refine go h fun w h=>?_
 refine j100 (xnode_any _ _ _ _ h.to k.big') fun p73 w h=>?_
 have f74:=k.fitN v70
 have bf74:=k.len
 refine go h fun w h=>?_
 refine sf (bu [.int .i64 v70] h Slc.h Ss.h rfl (by kernel_rfl) rfl (by decide) (by decide)) ?_
 rintro _ w ⟨b75,rfl,h⟩
 refine go h fun w h=>?_
 refine lp (α:=Ct.X × Nat × List Int × Int × Int × Option Addr × Nat × Nat) (fun ρ=>(.c 0 (.pointer (some ⟨xb,0,none⟩)) (.c 2 (.pointer (some ⟨b1,0,none⟩)) (.c 3 (.pointer (some ⟨b65,0,none⟩)) (.c 4 (.int .u64 ((Ct.hashOf c.key c.mask : Nat) : Int)) (.c 5 (.int .i64 ρ.2.2.2.1) (.c 6 (.int .i64 ((Ct.X.of c z72).node v70).gen) (.c 7 (.slice ρ.2.2.2.2.2.1 ρ.2.2.2.2.2.2.1 ρ.2.2.2.2.2.2.2) (.c 8 (.int .i64 ρ.2.2.2.2.1) .n))))))))) (fun ρ w=>SH B w (XA xb mb (Ct.X.of c ρ.1)::osl 36 1 (.slice ρ.2.2.2.2.2.1 ρ.2.2.2.2.2.2.1 ρ.2.2.2.2.2.2.2) ρ.2.2.2.2.2.2.1 (ρ.2.2.1.map (Value.int .i64))::bl b65 (trieC c.trie) 35::bl b1 ([.int .i64 0,.bool false,.int .u64 0,.string .empty,.int .i64 0,.int .i64 0,.int .i64 0,.bool false]) 43::L)∧(Ct.runI (Ct.dropI c F F) (Ct.X.of c x)=Ct.runI ((Ct.dropIn c (Ct.hashOf c.key c.mask) ((Ct.X.of c z72).node v70).gen ρ.2.1 ρ.2.2.1 ρ.2.2.2.1 ρ.2.2.2.2.1).bind (Ct.dropK c F n)) (Ct.X.of c ρ.1))∧(Ct.Ok 60 (Ct.X.of c ρ.1))∧((Ct.X.of c ρ.1).e.stopped=true∨(Ct.X.of c ρ.1).left<ρ.2.1)∧((Ct.X.of c ρ.1).e.stopped=true∨(Ct.X.of c ρ.1).left<n)∧(0≤ρ.2.2.2.2.1∧ρ.2.2.2.2.1+((ρ.2.1 : Nat) : Int)≤((F : Nat) : Int))∧(ρ.2.2.1.length=ρ.2.2.2.2.2.2.1∧((ρ.2.2.2.2.2.2.1 : Nat) : Int)=ρ.2.2.2.2.1+1)) (fun ρ=>ρ.2.1) (z72,F,[v70],v70,0,some ⟨b75,0,none⟩,1,1) ⟨rfl,rfl,rfl,rfl,rfl,rfl,rfl,rfl,trivial⟩ ⟨(h.to.fr (.c r1 (.c r0 (.c r0 (.c r0 .n))))),(hq.trans<|Ct.rB q71<|Ct.rN<|rfl),k,(ltq71.imp id fun h=>by have:=h.2; (try dsimp only); omega),(ltq71.imp id fun h=>by have:=h.2; (try dsimp only); omega),⟨by (try dsimp only); omega,by (try dsimp only); omega⟩,⟨rfl,by (try dsimp only); omega⟩⟩ ?_
 rintro ⟨yi,kk,path,i,l,p,m,cp⟩ w ⟨h,hq,k,hn,ho,hl,hpl⟩
 dsimp only at *
 refine go h fun w h=>?_
 refine st (ld (v:=.bool (Ct.X.of c yi).e.stopped) One.h rfl (h.xc a0 fun _=>rfl))<|go h fun w h=>?_
 refine qc h (fun hd76 w h=>?_) fun hd76 w h=>?_
 have hd77 : (Ct.X.of c yi).e.stopped=false:=by simpa using hd76
 refine go h fun w h=>?_
 obtain ⟨kk,rfl⟩ : ∃ k,kk=k+1 :=⟨kk - 1,by have:=hn.resolve_left (by rw [hd77]; decide); omega⟩
 replace hn:=hn.resolve_left (by rw [hd77]; decide)
 replace ho:=ho.resolve_left (by rw [hd77]; decide)
 refine go h fun w h=>?_
 have kb78:=k
 refine j211 (read_any _ _ _ _ _ h.to (k.less (by omega))) fun y79 v80 q81 w h k=>?_
 obtain ⟨z82,rfl⟩:=Ct.keB q81
 have lq81:=Ct.leB q81
 have ltq81:=Ct.lt_read kb78 q81
 refine go h fun w h=>?_
 refine st (ld (v:=.bool (Ct.X.of c z82).e.stopped) One.h rfl (h.xc a0 fun _=>rfl))<|go h fun w h=>?_
 refine qc h (fun hd83 w h=>?_) fun hd83 w h=>?_
 exact ⟨(z82,n),⟨rfl,rfl,rfl,rfl,trivial⟩,⟨h.to,(hq.trans<|Ct.rBB q81<|Ct.rst hd83),k,(.inl hd83),by (try dsimp only); omega⟩,by (try dsimp only); omega⟩
 refine j100 (xnode_any _ _ _ _ h.to k.big') fun p84 w h=>?_
 have f85:=k.fitN v80
 have bf85:=k.len
 refine go h fun w h=>?_
 refine qc h (fun hd86 w h=>?_) fun hd86 w h=>?_
 have hg87:=eq_of_beq hd86
 refine go h fun w h=>?_
 obtain ⟨b88,rfl⟩:=h.fp a2 (by omega)
 refine drH [1,3,5,7,9,11,13,15,17,19,21,23,24] (by kernel_rfl) h (.c r3 (.c r2 .n)) fun w h=>go h fun w h=>?_
 refine tk (fun W H=>bw rfl rfl (wsub (c:=l - 1) (by omega) (by omega) (by omega)))<|tk (fun W H=>mx rfl rfl (by omega))<|tk (fun W H=>ix (j:=(l - 1).toNat) sl_60 sz_36 rfl rfl (by omega))<|?_
 refine tk (fun W H=>ld one_36 rfl ((H.ro a1).i (by omega)))<|tk (fun W H=>mv rfl)<|tk (fun W H=>mv rfl)<|tk (fun W H=>mv rfl)<|?_
 refine go h fun w h=>?_
 refine tk (fun W H=>bs (l - 1))<|go h fun w h=>?_
 have kb89:=k
 refine s211 (clean_any _ _ _ _ _ _ _ _ h.to (k.less (by omega)) hh) fun y90 v91 q92 w h k=>?_
 obtain ⟨z93,rfl⟩:=Ct.keB q92
 have lq92:=Ct.leB q92
 have ltq92:=Ct.le_good (Ct.good_clean _ _ _ _ _) kb89 (by omega) q92
 refine go h fun w h=>?_
 exact ⟨(z93,n),⟨rfl,rfl,rfl,rfl,trivial⟩,⟨h.to,(hq.trans<|Ct.rBB q81<|Ct.rNB<|Ct.rTB hd86<|Ct.rBB q92<|rfl),k,(.inr (by have:=(ltq81.resolve_left (by rw [hd83]; decide)).2; have:=ltq92; (try dsimp only); omega)),by (try dsimp only); omega⟩,by (try dsimp only); omega⟩
 have hg94:=ne_of_beq_false hd86
 refine go h fun w h=>?_
 have kb95:=k
 refine j211 (dropLeaf_any _ _ _ c _ _ _ _ h.to (k.less (by omega)) hh) fun y96 v97 q98 w h k=>?_
 obtain ⟨z99,rfl⟩:=Ct.keB q98
 have lq98:=Ct.leB q98
 have ltq98:=Ct.le_good (Ct.good_dropLeaf c _ _ _ _) kb95 (by omega) q98
 refine go h fun w h=>?_
 refine jA h fun b100 w h=>?_
 refine st (ld (v:=.bool (Ct.X.of c z99).e.stopped) One.h rfl (h.xc a1 fun _=>rfl))<|go h fun w h=>?_
 refine qc h (fun hd101 w h=>?_) fun hd101 w h=>?_
 exact ⟨(z99,n),⟨rfl,rfl,rfl,rfl,trivial⟩,⟨h.to,(hq.trans<|Ct.rBB q81<|Ct.rNB<|Ct.rFB hd86<|Ct.rBB q98<|Ct.rst hd101),k,(.inl hd101),by (try dsimp only); omega⟩,by (try dsimp only); omega⟩
 refine qc h (fun hd102 w h=>?_) fun hd102 w h=>?_
 have hg103:=eq_of_beq hd102
 refine go h fun w h=>?_
 refine qc h (fun hd104 w h=>?_) fun hd104 w h=>?_
 have hg105:=eq_of_beq hd104
 refine go h fun w h=>?_
 obtain rfl:=hpl.1
 refine j211 (up_any _ _ _ c _ _ _ _ ((SH.fz (h.to.fr (.c r1 .n))).fr (.c r1 .n)) (k.less (by omega)) hh (by omega) (by omega)) fun y106 v107 q108 w h k=>?_
 obtain ⟨z109,rfl⟩:=Ct.keB q108
 have lq108:=Ct.leB q108
 refine go h fun w h=>?_
 exact rr (resC rfl rfl (h.b a5) Row.h)<|⟨_,v97.1,hq.trans<|Ct.rBB q81<|Ct.rNB<|Ct.rFB hd86<|Ct.rBB q98<|Ct.rTB hd102<|Ct.rTB hd104<|Ct.rBB q108<|Ct.rR,rfl,h.to,k⟩
 have hg110:=ne_of_beq_false hd104
 refine go h fun w h=>?_
 exact rr (resC rfl rfl (h.b a5) Row.h)<|⟨_,v97.1,hq.trans<|Ct.rBB q81<|Ct.rNB<|Ct.rFB hd86<|Ct.rBB q98<|Ct.rTB hd102<|Ct.rFB hd104<|Ct.rR,rfl,h.to,k⟩
 have hg111:=ne_of_beq_false hd102
 refine go h fun w h=>?_
 refine qc h (fun hd112 w h=>?_) fun hd112 w h=>?_
 have hg113:=eq_of_beq hd112
 refine go h fun w h=>?_
 exact ⟨(z99,n),⟨rfl,rfl,rfl,rfl,trivial⟩,⟨h.to,(hq.trans<|Ct.rBB q81<|Ct.rNB<|Ct.rFB hd86<|Ct.rBB q98<|Ct.rFB hd102<|Ct.rTB hd112<|rfl),k,(.inr (by have:=(ltq81.resolve_left (by rw [hd83]; decide)).2; have:=ltq98; (try dsimp only); omega)),by (try dsimp only); omega⟩,by (try dsimp only); omega⟩
 have hg114:=ne_of_beq_false hd112
 refine go h fun w h=>?_
 refine cl (ca en_181 rfl) ((rslice_any (Ct.hashOf c.key c.mask) l _ (by omega)).mono ?_)
 rintro _ _ ⟨rfl,rfl⟩
 refine ⟨_,rfl,?_⟩
 refine st (mv rfl)<|?_
 refine go h fun w h=>?_
 have kb115:=k
 refine j211 (below_any _ _ _ c _ _ _ _ h.to (k.less (by omega)) ) fun y116 v117 q118 w h k=>?_
 obtain ⟨z119,rfl⟩:=Ct.keB q118
 have lq118:=Ct.leB q118
 have ltq118:=Ct.le_good (Ct.good_below _ _ _ _ _) kb115 (by omega) q118
 refine go h fun w h=>?_
 refine qc h (fun hd120 w h=>?_) fun hd120 w h=>?_
 have hg121:=eq_of_beq hd120
 refine go h fun w h=>?_
 exact ⟨(z119,n),⟨rfl,rfl,rfl,rfl,trivial⟩,⟨h.to,(hq.trans<|Ct.rBB q81<|Ct.rNB<|Ct.rFB hd86<|Ct.rBB q98<|Ct.rFB hd102<|Ct.rFB hd112<|Ct.rBB q118<|Ct.rTB hd120<|rfl),k,(.inr (by have:=(ltq81.resolve_left (by rw [hd83]; decide)).2; have:=ltq98; have:=ltq118; (try dsimp only); omega)),by (try dsimp only); omega⟩,by (try dsimp only); omega⟩
 have hg122:=ne_of_beq_false hd120
 refine go h fun w h=>?_
 refine sf (bu [.int .i64 v117] h Slc.h Ss.h rfl (by kernel_rfl) rfl (by decide) (by decide)) ?_
 rintro _ w ⟨b123,rfl,h⟩
 refine go h fun w h=>?_
 refine sf (ap h Slc.h rfl Ss.h rfl (by decide) rfl rfl (fun _=>u4) (h.ro a0) (by simp [Value.oneCell']) rfl (join_ints _ _) (by unfold maxLen; omega) (by omega)) ?_
 rintro _ w ⟨p124,c125,rfl,h⟩
 refine go h fun w h=>?_
 refine st (ba (l+1))<|go h fun w h=>?_
 exact ⟨(z119,kk,path ++ [v117],v117,l+1,p124,m+1,c125),⟨rfl,rfl,rfl,rfl,rfl,rfl,rfl,rfl,trivial⟩,⟨h.to,(hq.trans<|Ct.rBB q81<|Ct.rNB<|Ct.rFB hd86<|Ct.rBB q98<|Ct.rFB hd102<|Ct.rFB hd112<|Ct.rBB q118<|Ct.rFB hd120<|rfl),k,(.inr (by have:=(ltq81.resolve_left (by rw [hd83]; decide)).2; have:=ltq98; have:=ltq118; (try dsimp only); omega)),(.inr (by have:=(ltq81.resolve_left (by rw [hd83]; decide)).2; have:=ltq98; have:=ltq118; (try dsimp only); omega)),⟨by (try dsimp only); omega,by (try dsimp only); omega⟩,⟨by (try dsimp only); rw [List.length_append,hpl.1]; rfl,by (try dsimp only); omega⟩⟩,by (try dsimp only); omega⟩
 have hd126 : (Ct.X.of c yi).e.stopped=true:=by simpa using hd76
 refine go h fun w h=>?_
 exact ⟨(yi,n),⟨rfl,rfl,rfl,rfl,trivial⟩,⟨h.to,(hq.trans<|Ct.rst hd126),k,(.inl hd126),by (try dsimp only); omega⟩,by (try dsimp only); omega⟩
 have hd127 : (Ct.X.of c y).e.stopped=true:=by simpa using hd66
 refine go h fun w h=>?_
 exact rr (resC rfl rfl (h.b a2) Row.h)<|⟨_,{},hq.trans<|Ct.rS hd127,rfl,h.to,(k.stop hd127)⟩
end Go.Proofs.YtmliojdkmfhmmaaGreat
end
