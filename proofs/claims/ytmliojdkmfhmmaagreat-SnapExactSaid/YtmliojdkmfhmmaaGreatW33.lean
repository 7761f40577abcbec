/- Parts of a proof: Q2, Qd. -/
import Derived.Test.YtmliojdkmfhmmaaGreatW09
import Derived.Test.YtmliojdkmfhmmaaGreatW32
import Derived.Test.YtmliojdkmfhmmaaGreatW20
import Derived.Test.YtmliojdkmfhmmaaGreatW24
import Derived.Test.YtmliojdkmfhmmaaGreatW04
import Derived.Test.YtmliojdkmfhmmaaGreatW16
set_option linter.unusedVariables false
set_option linter.unusedSimpArgs false
set_option maxRecDepth 100000
set_option maxHeartbeats 4000000
section
namespace Go.Proofs.YtmliojdkmfhmmaaGreat
attribute [local irreducible] Go.E.wpL Go.E.wpS Go.E.X Go.E.XS Go.E.C Go.E.thn Go.E.blk Go.E.fin Go.E.Y Go.E.U Go.E.F Go.E.Ca Go.E.Res Go.E.bl Go.E.rb Go.E.osl Go.E.rsl Go.E.ex Go.E.ce Go.E.pu Go.E.sK Go.E.gK Go.E.bK Go.E.zK
open Go.RowKit Go.E Go.Ct
variable {B w : World} {L : List As}
theorem value_any (f : Bool) (v : Nat) (h : SH B w (L)) :
  Calls Tryz.prog 222 #[.bool f,.int .u64 ((v : Nat) : Int)] w fun e w'=>e=.returned (.agg (resV (Ct.valueR f v)).toArray)∧SH B w' L:=by
 refine bn0 Tryz.func222 Tryz.ntmps222 h fun w h=>?_
 refine jA h fun b1 w h=>?_
 exact rr (resC rfl rfl (h.b a0) Row.h)<|⟨rfl,h.drop⟩
theorem permits_any (xb mb : Nat) (x : Ct.X) (c : Ct.Call) (f : Bool) (v : Nat) (h : SH B w (XA xb mb (Ct.X.of c x)::L)) :
  Calls Tryz.prog 261 #[.pointer (some ⟨xb,0,none⟩),.bool f,.int .u64 ((v : Nat) : Int)] w fun e w'=>e=.returned (.bool (Ct.permitsC c f v))∧SH B w' (XA xb mb (Ct.X.of c x)::L):=by
 refine bn0 Tryz.func261 Tryz.ntmps261 h fun w h=>?_
 refine st (ld (v:=.int .i64 c.policy) One.h rfl (h.xc a0 fun _=>rfl))<|go h fun w h=>?_
 refine qc h (fun hd1 w h=>?_) fun hd1 w h=>?_
 have hg2:=eq_of_beq hd1
 refine go h fun w h=>?_
 refine rz ?_
 refine ⟨?_,h⟩
 unfold Ct.permitsC; simp [natbeq,hd1]
 have hg3:=ne_of_beq_false hd1
 refine go h fun w h=>?_
 refine qc h (fun hd4 w h=>?_) fun hd4 w h=>?_
 have hg5:=eq_of_beq hd4
 refine go h fun w h=>?_
 refine rz ?_
 refine ⟨?_,h⟩
 unfold Ct.permitsC; simp [natbeq,hd1,hd4]
 have hg6:=ne_of_beq_false hd4
 refine go h fun w h=>?_
 refine qc h (fun hd7 w h=>?_) fun hd7 w h=>?_
 have hg8:=eq_of_beq hd7
 refine go h fun w h=>?_
 refine qg h (fun hd9 w h=>?_) fun hd9 w h=>?_
 refine st (ld (v:=.int .u64 ((c.expect : Nat) : Int)) One.h rfl (h.xc a0 fun _=>rfl))<|go h fun w h=>?_
 refine rz ?_
 refine ⟨?_,h⟩
 unfold Ct.permitsC; simp [natbeq,hd1,hd4,hd7,hd9]
 refine rz ?_
 refine ⟨?_,h⟩
 unfold Ct.permitsC; simp [natbeq,hd1,hd4,hd7,hd9]
 have hg10:=ne_of_beq_false hd7
 refine go h fun w h=>?_
 refine rz ?_
 refine ⟨?_,h⟩
 unfold Ct.permitsC; simp [natbeq,hd1,hd4,hd7]
theorem swapped_any (p : Value) (ok f : Bool) (v : Nat) (h : SH B w (L)) :
  Calls Tryz.prog 263 #[p,.bool ok,.bool f,.int .u64 ((v : Nat) : Int)] w fun e w'=>e=.returned (.tuple #[.agg (resV (Ct.swappedR f v)).toArray,.int .i64 (bif ok then 1 else 0)])∧SH B w' L:=by
 refine bn0 Tryz.func263 Tryz.ntmps263 h fun w h=>?_
 refine jA h fun b1 w h=>?_
 refine j000 (value_any _ _ h.to) fun w h=>?_
 refine jA h fun b2 w h=>?_
 refine qc h (fun hd3 w h=>?_) fun hd3 w h=>?_
 have hd4 : ok=false:=by simpa using hd3
 refine go h fun w h=>?_
 refine rr (resCt rfl rfl (h.b a1) Row.h rfl) ?_
 exact ⟨by rw [show ok=false by simpa using hd3]; rfl,h.drop.drop⟩
 have hd5 : ok=true:=by simpa using hd3
 refine go h fun w h=>?_
 refine rr (resCt rfl rfl (h.b a1) Row.h rfl) ?_
 exact ⟨by rw [show ok=true by simpa using hd3]; rfl,h.drop.drop⟩
theorem find_any (xb mb : Nat) (x : Ct.X) (c : Ct.Call) (F : Nat) (h : SH B w (XA xb mb (Ct.X.of c x)::L)) (k : Ct.Ok 60 (Ct.X.of c x)) (hx : (Ct.X.of c x).left≤F) (hF : F≤1000000000000) (hm : c.mask<18446744073709551616) (hky : c.key.size≤9223372036854775807) :
  Calls Tryz.prog 172 #[.pointer (some ⟨xb,0,none⟩)] w fun e w'=>∃ y v,Ct.runI (Ct.lookupI c F) (Ct.X.of c x)=Ct.out y v∧e=.returned (.agg (resV v).toArray)∧SH B w' (XA xb mb y::L)∧Ct.Ok 60 y:=by
 have hh:=Ct.hashOf_lt' c.key c.mask
 have hlen:=k.len
 refine bn0 Tryz.func172 Tryz.ntmps172 h fun w h=>?_
 refine jA h fun b1 w h=>?_
 refine drB (F:=[XA xb mb (Ct.X.of c x)]) [1,3,5,7,9,11,13,15,17,19,21,23,25,27,29] 15 16 [32,34,36] [30,34,36] (by kernel_rfl) h (fun w h=>(hC (h.at_ a1) hN)) fun w h=>go h fun w h=>?_
 refine tk (fun W H=>ldr (cs:=trieC c.trie) rfl (H.xr 2 a0 fun _=>rfl) Row.h)<|go h fun w h=>?_
 refine tk (fun W H=>ld (v:=.string c.key) One.h rfl (H.xc a0 fun _=>rfl))<|go h fun w h=>?_
 refine tk (fun W H=>ld (v:=.int .u64 ((c.mask : Nat) : Int)) One.h rfl (H.xc a0 fun _=>rfl))<|go h fun w h=>?_
 refine xzB ?_ ?_
 refine cs (ca en_117 rfl) ((rhash_any c.key c.mask _ (by omega) (by omega)).mono ?_)
 rintro _ _ ⟨rfl,rfl⟩
 refine ⟨_,rfl,(hC (h.at_ a1) hN),?_⟩
 refine go h fun w h=>?_
 refine jB h fun b2 w h=>?_
 have kb3:=k
 refine j211 (help_any _ _ _ _ h.to (k.less (by omega))) fun y4 v5 q6 w h k=>?_
 obtain ⟨z7,rfl⟩:=Ct.keB q6
 have lq6:=Ct.leB q6
 have ltq6:=Ct.lt_help kb3 (by omega) q6
 refine go h fun w h=>?_
 refine lp (α:=Ct.X × Nat × Int × Int) (fun ρ=>(.c 0 (.pointer (some ⟨xb,0,none⟩)) (.c 2 (.pointer (some ⟨b1,0,none⟩)) (.c 3 (.pointer (some ⟨b2,0,none⟩)) (.c 4 (.int .u64 ((Ct.hashOf c.key c.mask : Nat) : Int)) (.c 5 (.int .i64 ρ.2.2.1) (.c 6 (.int .i64 ρ.2.2.2) .n))))))) (fun ρ w=>SH B w (XA xb mb (Ct.X.of c ρ.1)::bl b2 (trieC c.trie) 35::bl b1 ([.int .i64 0,.bool false,.int .u64 0,.string .empty,.int .i64 0,.int .i64 0,.int .i64 0,.bool false]) 43::L)∧(Ct.runI (Ct.lookupI c F) (Ct.X.of c x)=Ct.runI (Ct.findI c.trie c.key (Ct.hashOf c.key c.mask) ρ.2.1 ρ.2.2.1 ρ.2.2.2) (Ct.X.of c ρ.1))∧(Ct.Ok 60 (Ct.X.of c ρ.1))∧((Ct.X.of c ρ.1).e.stopped=true∨(Ct.X.of c ρ.1).left<ρ.2.1)∧(0≤ρ.2.2.2∧ρ.2.2.2+((ρ.2.1 : Nat) : Int)≤((F : Nat) : Int))) (fun ρ=>ρ.2.1) (z7,F,v5,0) ⟨rfl,rfl,rfl,rfl,rfl,rfl,trivial⟩ ⟨h,(Ct.rB q6<|rfl),k,(ltq6.imp id fun h=>by have:=h.2; (try dsimp only); omega),⟨by (try dsimp only); omega,by (try dsimp only); omega⟩⟩ ?_
 rintro ⟨y,n,i,l⟩ w ⟨h,hq,k,hn,hl⟩
 dsimp only at *
 refine go h fun w h=>?_
 refine st (ld (v:=.bool (Ct.X.of c y).e.stopped) One.h rfl (h.xc a0 fun _=>rfl))<|go h fun w h=>?_
 refine qc h (fun hd8 w h=>?_) fun hd8 w h=>?_
 have hd9 : (Ct.X.of c y).e.stopped=false:=by simpa using hd8
 refine go h fun w h=>?_
 obtain ⟨n,rfl⟩ : ∃ k,n=k+1 :=⟨n - 1,by have:=hn.resolve_left (by rw [hd9]; decide); omega⟩
 replace hn:=hn.resolve_left (by rw [hd9]; decide)
 refine go h fun w h=>?_
 have kb10:=k
 refine j211 (read_any _ _ _ _ _ h.to (k.less (by omega))) fun y11 v12 q13 w h k=>?_
 obtain ⟨z14,rfl⟩:=Ct.keB q13
 have lq13:=Ct.leB q13
 have ltq13:=Ct.lt_read kb10 q13
 refine go h fun w h=>?_
 refine j100 (xnode_any _ _ _ _ h.to k.big') fun p15 w h=>?_
 have f16:=k.fitN v12
 have bf16:=k.len
 refine go h fun w h=>?_
 refine jA h fun b17 w h=>?_
 refine qc h (fun hd18 w h=>?_) fun hd18 w h=>?_
 have hg19:=eq_of_beq hd18
 refine go h fun w h=>?_
 refine drH [1,3,5,7,9,11,13,15] (by kernel_rfl) h (.c r0 (.c r1 .n)) fun w h=>go h fun w h=>?_
 refine tk (fun W H=>ld (v:=.string c.key) One.h rfl (H.xc a1 fun _=>rfl))<|go h fun w h=>?_
 refine qc h (fun hd20 w h=>?_) fun hd20 w h=>?_
 refine j000 (value_any _ _ h.to) fun w h=>?_
 exact rr (resC rfl rfl (h.b a4) Row.h)<|⟨_,Ct.valueR true ((Ct.X.of c z14).node v12).value,hq.trans<|Ct.rB q13<|Ct.rN<|Ct.rT hd18<|Ct.rT hd20<|Ct.rR,rfl,h.to,k⟩
 refine j000 (value_any _ _ h.to) fun w h=>?_
 exact rr (resC rfl rfl (h.b a4) Row.h)<|⟨_,Ct.valueR false 0,hq.trans<|Ct.rB q13<|Ct.rN<|Ct.rT hd18<|Ct.rF hd20<|Ct.rR,rfl,h.to,k⟩
 have hg21:=ne_of_beq_false hd18
 refine go h fun w h=>?_
 refine qc h (fun hd22 w h=>?_) fun hd22 w h=>?_
 have hg23:=eq_of_beq hd22
 refine go h fun w h=>?_
 have h:=h.fr (.c r1 .n)
 have h:=SH.se (l:=[branchR ((Ct.X.of c z14).node v12) p15,pairR ((Ct.X.of c z14).node v12) p15]) h
 have hpv:=(Ct.valid_vf (((Ct.Node.Fit.nf f16 (by omega))).v6 (eq_of_beq hd22))).sorted (eq_of_beq hd22)
 have hpl:=((Ct.Node.Fit.nf f16 (by omega))).pr
 refine drH [1,3,5,7,9,11,13,14,17,19,21,22,24] (by kernel_rfl) h (.c r2 (.c r2 .n)) fun w h=>go h fun w h=>?_
 refine tk (fun W H=>ld (v:=.string c.key) One.h rfl (H.xc a1 fun _=>rfl))<|go h fun w h=>?_
 refine s000 (rfind_any _ _ _ _ h.to hpv (by omega)) fun w h=>?_
 refine j000 (value_any _ _ h.to) fun w h=>?_
 exact rr (resC rfl rfl (h.b a5) Row.h)<|⟨_,Ct.valueR (Ct.pfind ((Ct.X.of c z14).node v12).pairs c.key).2 (Ct.pfind ((Ct.X.of c z14).node v12).pairs c.key).1,hq.trans<|Ct.rB q13<|Ct.rN<|Ct.rF hd18<|Ct.rT hd22<|Ct.rR,rfl,h.to,k⟩
 have hg24:=ne_of_beq_false hd22
 refine go h fun w h=>?_
 refine drH [1,3,5,6,8,11,13,15,16,18] (by kernel_rfl) h (.c r0 .n) fun w h=>go h fun w h=>?_
 refine cs (ca en_181 rfl) ((rslice_any (Ct.hashOf c.key c.mask) l _ (by omega)).mono ?_)
 rintro _ _ ⟨rfl,rfl⟩
 refine ⟨_,rfl,h.hs (.c r0 .n),?_⟩
 refine go h fun w h=>?_
 refine s000 (rlookup_any _ _ _ _ _ _ h.to (Ct.Node.Fit.nf f16 (by omega))) fun w h=>?_
 refine st (ld (v:=.bool (Ct.X.of c z14).e.stopped) One.h rfl (h.xc a2 fun _=>rfl))<|go h fun w h=>?_
 refine qg h (fun hd25 w h=>?_) fun hd25 w h=>?_
 refine j000 (value_any _ _ h.to) fun w h=>?_
 exact rr (resC rfl rfl (h.b a4) Row.h)<|⟨_,Ct.valueR false 0,hq.trans<|Ct.rB q13<|Ct.rN<|Ct.rF hd18<|Ct.rF hd22<|Ct.rS hd25,rfl,h.to,(k.stop hd25)⟩
 refine qc h (fun hd26 w h=>?_) fun hd26 w h=>?_
 have hd27 : (Ct.blookup ((Ct.X.of c z14).node v12) (Ct.slice (Ct.hashOf c.key c.mask) l)).2=false:=by simpa using hd26
 refine go h fun w h=>?_
 refine j000 (value_any _ _ h.to) fun w h=>?_
 exact rr (resC rfl rfl (h.b a4) Row.h)<|⟨_,Ct.valueR false 0,hq.trans<|Ct.rB q13<|Ct.rN<|Ct.rF hd18<|Ct.rF hd22<|Ct.rnF hd27<|Ct.rR,rfl,h.to,k⟩
 have hd28 : (Ct.blookup ((Ct.X.of c z14).node v12) (Ct.slice (Ct.hashOf c.key c.mask) l)).2=true:=by simpa using hd26
 refine go h fun w h=>?_
 refine j100 (xnode_any _ _ _ _ h.to k.big') fun p29 w h=>?_
 have f30:=k.fitN (Ct.blookup ((Ct.X.of c z14).node v12) (Ct.slice (Ct.hashOf c.key c.mask) l)).1
 have bf30:=k.len
 refine go h fun w h=>?_
 refine jA h fun b31 w h=>?_
 refine qc h (fun hd32 w h=>?_) fun hd32 w h=>?_
 have hg33:=eq_of_beq hd32
 refine go h fun w h=>?_
 refine drH [1,3,5,7,9,11,13,15] (by kernel_rfl) h (.c r0 (.c r1 .n)) fun w h=>go h fun w h=>?_
 refine tk (fun W H=>ld (v:=.string c.key) One.h rfl (H.xc a1 fun _=>rfl))<|go h fun w h=>?_
 refine qc h (fun hd34 w h=>?_) fun hd34 w h=>?_
 refine j000 (value_any _ _ h.to) fun w h=>?_
 exact rr (resC rfl rfl (h.b a6) Row.h)<|⟨_,Ct.valueR true ((Ct.X.of c z14).node (Ct.blookup ((Ct.X.of c z14).node v12) (Ct.slice (Ct.hashOf c.key c.mask) l)).1).value,hq.trans<|Ct.rB q13<|Ct.rN<|Ct.rF hd18<|Ct.rF hd22<|Ct.rnT hd28<|Ct.rN<|Ct.rT hd32<|Ct.rT hd34<|Ct.rR,rfl,h.to,k⟩
 refine j000 (value_any _ _ h.to) fun w h=>?_
 exact rr (resC rfl rfl (h.b a6) Row.h)<|⟨_,Ct.valueR false 0,hq.trans<|Ct.rB q13<|Ct.rN<|Ct.rF hd18<|Ct.rF hd22<|Ct.rnT hd28<|Ct.rN<|Ct.rT hd32<|Ct.rF hd34<|Ct.rR,rfl,h.to,k⟩
 have hg35:=ne_of_beq_false hd32
 refine go h fun w h=>?_
 refine st (ba (l+1))<|go h fun w h=>?_
 exact ⟨(z14,n,(Ct.blookup ((Ct.X.of c z14).node v12) (Ct.slice (Ct.hashOf c.key c.mask) l)).1,l+1),⟨rfl,rfl,rfl,rfl,rfl,rfl,trivial⟩,⟨h.to,(hq.trans<|Ct.rB q13<|Ct.rN<|Ct.rF hd18<|Ct.rF hd22<|Ct.rnT hd28<|Ct.rN<|Ct.rF hd32<|rfl),k,(.inr (by have:=(ltq13.resolve_left (by rw [hd25]; decide)).2; (try dsimp only); omega)),⟨by (try dsimp only); omega,by (try dsimp only); omega⟩⟩,by (try dsimp only); omega⟩
 have hd36 : (Ct.X.of c y).e.stopped=true:=by simpa using hd8
 refine go h fun w h=>?_
 exact rr (resC rfl rfl (h.b a2) Row.h)<|⟨_,{},hq.trans<|Ct.rS hd36,rfl,h.to,(k.stop hd36)⟩
 refine jB h fun b37 w h=>?_
 refine cs (ca en_117 rfl) ((rhash_any c.key c.mask _ (by omega) (by omega)).mono ?_)
 rintro _ _ ⟨rfl,rfl⟩
 refine ⟨_,rfl,(hC (h.at_ a2) hN),?_⟩
 refine ff (so h rfl rfl rfl sz_35 rfl (.r (.r .d)) u0)<|?_
 rintro _ w h
 refine ⟨(hC (h.at_ a2) hN),?_⟩
 refine ef (sg rfl) ((hC (h.at_ a2) hN))<|xz<|nx<|sq<|rg<|st (mv rfl)<|st (ldr rfl (rows_all (h.b a0)) row_35)<|?_
 refine go h fun w h=>?_
 have kb38:=k
 refine j211 (help_any _ _ _ _ h.to (k.less (by omega))) fun y39 v40 q41 w h k=>?_
 obtain ⟨z42,rfl⟩:=Ct.keB q41
 have lq41:=Ct.leB q41
 have ltq41:=Ct.lt_help kb38 (by omega) q41
 refine go h fun w h=>?_
 refine lp (α:=Ct.X × Nat × Int × Int) (fun ρ=>(.c 0 (.pointer (some ⟨xb,0,none⟩)) (.c 2 (.pointer (some ⟨b1,0,none⟩)) (.c 3 (.pointer (some ⟨b37,0,none⟩)) (.c 4 (.int .u64 ((Ct.hashOf c.key c.mask : Nat) : Int)) (.c 5 (.int .i64 ρ.2.2.1) (.c 6 (.int .i64 ρ.2.2.2) .n))))))) (fun ρ w=>SH B w (XA xb mb (Ct.X.of c ρ.1)::bl b37 (trieC c.trie) 35::bl b1 ([.int .i64 0,.bool false,.int .u64 0,.string .empty,.int .i64 0,.int .i64 0,.int .i64 0,.bool false]) 43::L)∧(Ct.runI (Ct.lookupI c F) (Ct.X.of c x)=Ct.runI (Ct.findI c.trie c.key (Ct.hashOf c.key c.mask) ρ.2.1 ρ.2.2.1 ρ.2.2.2) (Ct.X.of c ρ.1))∧(Ct.Ok 60 (Ct.X.of c ρ.1))∧((Ct.X.of c ρ.1).e.stopped=true∨(Ct.X.of c ρ.1).left<ρ.2.1)∧(0≤ρ.2.2.2∧ρ.2.2.2+((ρ.2.1 : Nat) : Int)≤((F : Nat) : Int))) (fun ρ=>ρ.2.1) (z42,F,v40,0) ⟨rfl,rfl,rfl,rfl,rfl,rfl,trivial⟩ ⟨h,(Ct.rB q41<|rfl),k,(ltq41.imp id fun h=>by have:=h.2; (try dsimp only); omega),⟨by (try dsimp only); omega,by (try dsimp only); omega⟩⟩ ?_
 rintro ⟨y,n,i,l⟩ w ⟨h,hq,k,hn,hl⟩
 dsimp only at *
 refine go h fun w h=>?_
 refine st (ld (v:=.bool (Ct.X.of c y).e.stopped) One.h rfl (h.xc a0 fun _=>rfl))<|go h fun w h=>?_
 refine qc h (fun hd43 w h=>?_) fun hd43 w h=>?_
 have hd44 : (Ct.X.of c y).e.stopped=false:=by simpa using hd43
 refine go h fun w h=>?_
 obtain ⟨n,rfl⟩ : ∃ k,n=k+1 :=⟨n - 1,by have:=hn.resolve_left (by rw [hd44]; decide); omega⟩
 replace hn:=hn.resolve_left (by rw [hd44]; decide)
 refine go h fun w h=>?_
 have kb45:=k
 refine j211 (read_any _ _ _ _ _ h.to (k.less (by omega))) fun y46 v47 q48 w h k=>?_
 obtain ⟨z49,rfl⟩:=Ct.keB q48
 have lq48:=Ct.leB q48
 have ltq48:=Ct.lt_read kb45 q48
 refine go h fun w h=>?_
 refine j100 (xnode_any _ _ _ _ h.to k.big') fun p50 w h=>?_
 have f51:=k.fitN v47
 have bf51:=k.len
 refine go h fun w h=>?_
 refine jA h fun b52 w h=>?_
 refine qc h (fun hd53 w h=>?_) fun hd53 w h=>?_
 have hg54:=eq_of_beq hd53
 refine go h fun w h=>?_
 refine drH [1,3,5,7,9,11,13,15] (by kernel_rfl) h (.c r0 (.c r1 .n)) fun w h=>go h fun w h=>?_
 refine tk (fun W H=>ld (v:=.string c.key) One.h rfl (H.xc a1 fun _=>rfl))<|go h fun w h=>?_
 refine qc h (fun hd55 w h=>?_) fun hd55 w h=>?_
 refine j000 (value_any _ _ h.to) fun w h=>?_
 exact rr (resC rfl rfl (h.b a4) Row.h)<|⟨_,Ct.valueR true ((Ct.X.of c z49).node v47).value,hq.trans<|Ct.rB q48<|Ct.rN<|Ct.rT hd53<|Ct.rT hd55<|Ct.rR,rfl,h.to,k⟩
 refine j000 (value_any _ _ h.to) fun w h=>?_
 exact rr (resC rfl rfl (h.b a4) Row.h)<|⟨_,Ct.valueR false 0,hq.trans<|Ct.rB q48<|Ct.rN<|Ct.rT hd53<|Ct.rF hd55<|Ct.rR,rfl,h.to,k⟩
 have hg56:=ne_of_beq_false hd53
 refine go h fun w h=>?_
 refine qc h (fun hd57 w h=>?_) fun hd57 w h=>?_
 have hg58:=eq_of_beq hd57
 refine go h fun w h=>?_
 have h:=h.fr (.c r1 .n)
 have h:=SH.se (l:=[branchR ((Ct.X.of c z49).node v47) p50,pairR ((Ct.X.of c z49).node v47) p50]) h
 have hpv:=(Ct.valid_vf (((Ct.Node.Fit.nf f51 (by omega))).v6 (eq_of_beq hd57))).sorted (eq_of_beq hd57)
 have hpl:=((Ct.Node.Fit.nf f51 (by omega))).pr
 refine drH [1,3,5,7,9,11,13,14,17,19,21,22,24] (by kernel_rfl) h (.c r2 (.c r2 .n)) fun w h=>go h fun w h=>?_
 refine tk (fun W H=>ld (v:=.string c.key) One.h rfl (H.xc a1 fun _=>rfl))<|go h fun w h=>?_
 refine s000 (rfind_any _ _ _ _ h.to hpv (by omega)) fun w h=>?_
 refine j000 (value_any _ _ h.to) fun w h=>?_
 exact rr (resC rfl rfl (h.b a5) Row.h)<|⟨_,Ct.valueR (Ct.pfind ((Ct.X.of c z49).node v47).pairs c.key).2 (Ct.pfind ((Ct.X.of c z49).node v47).pairs c.key).1,hq.trans<|Ct.rB q48<|Ct.rN<|Ct.rF hd53<|Ct.rT hd57<|Ct.rR,rfl,h.to,k⟩
 have hg59:=ne_of_beq_false hd57
 refine go h fun w h=>?_
 refine drH [1,3,5,6,8,11,13,15,16,18] (by kernel_rfl) h (.c r0 .n) fun w h=>go h fun w h=>?_
 refine cs (ca en_181 rfl) ((rslice_any (Ct.hashOf c.key c.mask) l _ (by omega)).mono ?_)
 rintro _ _ ⟨rfl,rfl⟩
 refine ⟨_,rfl,h.hs (.c r0 .n),?_⟩
 refine go h fun w h=>?_
 refine s000 (rlookup_any _ _ _ _ _ _ h.to (Ct.Node.Fit.nf f51 (by omega))) fun w h=>?_
 refine st (ld (v:=.bool (Ct.X.of c z49).e.stopped) One.h rfl (h.xc a2 fun _=>rfl))<|go h fun w h=>?_
 refine qg h (fun hd60 w h=>?_) fun hd60 w h=>?_
 refine j000 (value_any _ _ h.to) fun w h=>?_
 exact rr (resC rfl rfl (h.b a4) Row.h)<|⟨_,Ct.valueR false 0,hq.trans<|Ct.rB q48<|Ct.rN<|Ct.rF hd53<|Ct.rF hd57<|Ct.rS hd60,rfl,h.to,(k.stop hd60)⟩
 refine qc h (fun hd61 w h=>?_) fun hd61 w h=>?_
 have hd62 : (Ct.blookup ((Ct.X.of c z49).node v47) (Ct.slice (Ct.hashOf c.key c.mask) l)).2=false:=by simpa using hd61
 refine go h fun w h=>?_
 refine j000 (value_any _ _ h.to) fun w h=>?_
 exact rr (resC rfl rfl (h.b a4) Row.h)<|⟨_,Ct.valueR false 0,hq.trans<|Ct.rB q48<|Ct.rN<|Ct.rF hd53<|Ct.rF hd57<|Ct.rnF hd62<|Ct.rR,rfl,h.to,k⟩
 have hd63 : (Ct.blookup ((Ct.X.of c z49).node v47) (Ct.slice (Ct.hashOf c.key c.mask) l)).2=true:=by simpa using hd61
 refine go h fun w h=>?_
 refine j100 (xnode_any _ _ _ _ h.to k.big') fun p64 w h=>?_
 have f65:=k.fitN (Ct.blookup ((Ct.X.of c z49).node v47) (Ct.slice (Ct.hashOf c.key c.mask) l)).1
 have bf65:=k.len
 refine go h fun w h=>?_
 refine jA h fun b66 w h=>?_
 refine qc h (fun hd67 w h=>?_) fun hd67 w h=>?_
 have hg68:=eq_of_beq hd67
 refine go h fun w h=>?_
 refine drH [1,3,5,7,9,11,13,15] (by kernel_rfl) h (.c r0 (.c r1 .n)) fun w h=>go h fun w h=>?_
 refine tk (fun W H=>ld (v:=.string c.key) One.h rfl (H.xc a1 fun _=>rfl))<|go h fun w h=>?_
 refine qc h (fun hd69 w h=>?_) fun hd69 w h=>?_
 refine j000 (value_any _ _ h.to) fun w h=>?_
 exact rr (resC rfl rfl (h.b a6) Row.h)<|⟨_,Ct.valueR true ((Ct.X.of c z49).node (Ct.blookup ((Ct.X.of c z49).node v47) (Ct.slice (Ct.hashOf c.key c.mask) l)).1).value,hq.trans<|Ct.rB q48<|Ct.rN<|Ct.rF hd53<|Ct.rF hd57<|Ct.rnT hd63<|Ct.rN<|Ct.rT hd67<|Ct.rT hd69<|Ct.rR,rfl,h.to,k⟩
 refine j000 (value_any _ _ h.to) fun w h=>?_
 exact rr (resC rfl rfl (h.b a6) Row.h)<|⟨_,Ct.valueR false 0,hq.trans<|Ct.rB q48<|Ct.rN<|Ct.rF hd53<|Ct.rF hd57<|Ct.rnT hd63<|Ct.rN<|Ct.rT hd67<|Ct.rF hd69<|Ct.rR,rfl,h.to,k⟩
 have hg70:=ne_of_beq_false hd67
 refine go h fun w h=>?_
 refine st (ba (l+1))<|go h fun w h=>?_
 exact ⟨(z49,n,(Ct.blookup ((Ct.X.of c z49).node v47) (Ct.slice (Ct.hashOf c.key c.mask) l)).1,l+1),⟨rfl,rfl,rfl,rfl,rfl,rfl,trivial⟩,⟨h.to,(hq.trans<|Ct.rB q48<|Ct.rN<|Ct.rF hd53<|Ct.rF hd57<|Ct.rnT hd63<|Ct.rN<|Ct.rF hd67<|rfl),k,(.inr (by have:=(ltq48.resolve_left (by rw [hd60]; decide)).2; (try dsimp only); omega)),⟨by (try dsimp only); omega,by (try dsimp only); omega⟩⟩,by (try dsimp only); omega⟩
 have hd71 : (Ct.X.of c y).e.stopped=true:=by simpa using hd43
 refine go h fun w h=>?_
 exact rr (resC rfl rfl (h.b a2) Row.h)<|⟨_,{},hq.trans<|Ct.rS hd71,rfl,h.to,(k.stop hd71)⟩
end Go.Proofs.YtmliojdkmfhmmaaGreat
end
section
namespace Go.Ct
def dualStart (x : Node) (at_ : Int) (h : Nat) (key : ByteArray) (v : Nat) (first : Int) : Nat × List (Node × Int) :=
 if 11≤commonOf x.hash h then (11,[({ kind:=6,hash:=h,pairs:=pof2 ⟨x.key,x.value⟩ ⟨key,v⟩ },0)])
 else (commonOf x.hash h,[({ kind:=4,hash:=h,key:=key,value:=v },0),(bpair (slice x.hash (commonOf x.hash h)) at_ (slice h (commonOf x.hash h)) first,0)])
theorem dualNodes_start (x : Node) (at_ : Int) (h : Nat) (key : ByteArray) (v : Nat) (level gen first : Int) :
  dualNodes x at_ h key v level gen first=dualUp h gen first (dualStart x at_ h key v first).1 (((dualStart x at_ h key v first).1 : Int) - level).toNat (dualStart x at_ h key v first).2:=by
 unfold dualNodes dualStart; dsimp only; split <;> rfl
theorem dualUp_snoc (h : Nat) (g f : Int) : ∀ (j : Nat) (c : Int) (l : List (Node × Int)),dualUp h g f c (j+1) l=dualUp h g f c j l ++ [({ kind:=2,gen:=g },f+(dualUp h g f c j l).length - 1),({ kind:=3,bitmap:=Bm.withE 0 (slice h (c - j - 1)),branches:=[f+(dualUp h g f c j l).length - 1+1] },0)]
 | 0,c,l=>by simp [dualUp]
 | j+1,c,l=>by
  rw [show dualUp h g f c (j+1+1) l=dualUp h g f (c - 1) (j+1) _ from rfl,dualUp_snoc h g f j (c - 1)]
  rw [show dualUp h g f c (j+1) l=dualUp h g f (c - 1) j _ from rfl]
  rw [show c - ((j+1 : Nat) : Int) - 1=c - 1 - ((j : Nat) : Int) - 1 by omega]
theorem common_le (h k : Nat) : commonOf h k≤11:=by have:=(common_lt h k 11 0).1; unfold commonOf; omega
theorem dual_run {x : Node} {at_ : Int} {h : Nat} {key : ByteArray} {v : Nat} {level gen first : Int} {z : X} (hs : z.e.stopped=false) (hf : first=if z.e.m<z.e.made.length then z.e.made.getD z.e.m 0 else (z.s.added.length : Int)+3) (hm : z.e.m≤z.e.made.length) :
  runI (dualI x at_ h key v level gen) z=runI (allocsI (dualNodes x at_ h key v level gen first) 0) z:=by
 have key' : ∀ (n : Node) (i : Int),∃ y,allocR n i z=(y,some first):=fun n i=>by
  unfold allocR; rw [if_neg (by rw [hs]; decide)]
  split
  ·rename_i h1
   rw [if_neg (by omega)] at hf
   exact ⟨_,by rw [hf]; rfl⟩
  ·rename_i h1
   rw [if_pos (by omega)] at hf
   exact ⟨_,by rw [hf]⟩
 have hh:=dualNodes_head x at_ h key v level gen 0 first
 cases h0 : dualNodes x at_ h key v level gen 0 with
 | nil=>have:=dualNodes_pos x at_ h key v level gen 0; rw [h0] at this; simp at this
 | cons n l =>
  cases h1 : dualNodes x at_ h key v level gen first with
  | nil=>have:=dualNodes_pos x at_ h key v level gen first; rw [h1] at this; simp at this
  | cons n' l' =>
   rw [h0,h1] at hh
   obtain rfl : n=n':=by simpa using hh
   have e : dualI x at_ h key v level gen=.alloc n.1 n.2 fun f=>allocsI (dualNodes x at_ h key v level gen f).tail f:=by unfold dualI; rw [h0]
   rw [e]
   obtain ⟨y,hy⟩:=key' n.1 n.2
   show andR (allocR n.1 n.2 z) _=andR (allocR n.1 n.2 z) _
   rw [hy]
   show runI (allocsI (dualNodes x at_ h key v level gen first).tail first) y=runI (allocsI l' first) y
   rw [h1]; rfl
theorem allocs_step {l : List (Node × Int)} {k : Nat} (hk : k<l.length) (r : Int) : allocsI (l.drop k) r=.alloc (l.getD k ({},0)).1 (l.getD k ({},0)).2 fun r=>allocsI (l.drop (k+1)) r:=by
 rw [List.drop_eq_getElem_cons hk,List.getD_eq_getElem?_getD,List.getElem?_eq_getElem hk]; rfl
theorem map_at {α β γ : Type} {f : α→γ} {g : β→γ} {l : List α} {m : List β} (h : l.map f=m.map g) {i : Nat} (a : α) (b : β) (hi : i<m.length) : f (l.getD i a)=g (m.getD i b):=by
 have h1 : l.length=m.length:=by have:=congrArg List.length h; simpa using this
 have h2:=congrArg (fun z=>z[i]?) h
 simp only [List.getElem?_map,List.getElem?_eq_getElem hi,List.getElem?_eq_getElem (show i<l.length by omega),Option.map_some,Option.some.injEq] at h2
 rw [List.getD_eq_getElem?_getD,List.getD_eq_getElem?_getD,List.getElem?_eq_getElem hi,List.getElem?_eq_getElem (show i<l.length by omega)]; exact h2
theorem getD_mem {α : Type} {l : List α} {i : Nat} (a : α) (hi : i<l.length) : l.getD i a ∈ l:=by
 rw [List.getD_eq_getElem?_getD,List.getElem?_eq_getElem hi]; exact List.getElem_mem hi
theorem snd_at {l : List (Node × Int)} {i : Nat} (hi : i<l.length) : (l.map Prod.snd).getD i 0=(l.getD i ({},0)).2:=by
 rw [List.getD_eq_getElem?_getD,List.getD_eq_getElem?_getD,List.getElem?_map,List.getElem?_eq_getElem hi]; rfl
end Go.Ct
namespace Go.E
open Go.Proofs.YtmliojdkmfhmmaaGreat Go.RowKit
variable {B w : World} {L : List As}
theorem SH.memN {b mb : Nat} {x : Ct.X} (h : SH B w L) (m : At L (XA b mb x)) : ∃ p c,w.cell? ⟨mb,0,none⟩=some (.slice p (2+x.s.added.length) c):=by
 obtain ⟨O,R,hA⟩:=h.at_ m
 obtain ⟨O1,R1,q,h1⟩:=se_at hA (i:=1) rfl
 obtain ⟨O2,R2,h2⟩:=se_at h1 (i:=0) rfl
 obtain ⟨O3,R3,h3⟩:=se_at h1 (i:=1) rfl
 have hl:=zs_len h2.1
 exact ⟨q.pn,q.cn,by rw [← hl]; simp [World.cell?,h3.1]⟩
theorem SH.ceX {b mb : Nat} {x : Ct.X} {o : Nat} {v : Value} (h : SH B w L) (m : At L (XA b mb x)) (hv : ∀ q,(exV mb x.e q)[o]? = some v) : ∃ O R,(ce b o v).p w O R :=⟨fun _=>False,fun k=>k=b,h.xc m hv,fun _ h=>h,fun _=>Iff.rfl⟩
theorem rows_ce2 {b o : Nat} {v0 v1 : Value} (h0 : w.cell? ⟨b,o,none⟩=some v0) (h1 : w.cell? ⟨b,o+1,none⟩=some v1) : ∀ j v,[v0,v1][j]? = some v→w.cell? ⟨b,o+j,none⟩=some v:=fun j v hj=>by
 match j with
 | 0=>simp at hj; subst hj; exact h0
 | 1=>simp at hj; subst hj; exact h1
 | j+2=>simp at hj
theorem SH.nilF (h : SH B w L) : SH B w (nodesF []::L) :=
 h.new (Kp.refl _ _) (O:=fun _=>False) (R:=fun _=>False) ⟨fun _ h=>h,fun _ hz=>absurd hz List.not_mem_nil,fun _ h=>h.elim⟩ (fun _ h=>h.elim) (fun _ h=>h.elim)
theorem SH.addR {zs : List (Ct.Node × Lq)} {n : Ct.Node} {q : Lq} (h : SH B w (nodeR n q::nodesF zs::L)) : SH B w (nodesF (zs ++ [(n,q)])::L) :=
 SH.addN (SH.se (l:=[branchR n q,pairR n q]) h)
theorem SH.addR2 {zs : List (Ct.Node × Lq)} {n n' : Ct.Node} {q q' : Lq} (h : SH B w (nodeR n q::nodeR n' q'::nodesF zs::L)) : SH B w (nodesF (zs ++ [(n,q),(n',q')])::L):=by
 have h1:=(h.fr (.c r0 (.c r1 .n))).addR
 have h2:=(h1.fr (.c r1 (.c r0 .n))).addR
 rw [List.append_assoc] at h2
 exact h2
end Go.E
end
