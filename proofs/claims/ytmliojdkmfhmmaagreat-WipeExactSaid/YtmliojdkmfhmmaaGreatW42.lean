/- Parts of a proof: Wx. -/
import Derived.Test.YtmliojdkmfhmmaaGreatW41
set_option linter.unusedVariables false
set_option linter.unusedSimpArgs false
set_option maxRecDepth 100000
set_option maxHeartbeats 4000000
section
namespace Go.Proofs.YtmliojdkmfhmmaaGreat
open Go.RowKit Go.E
attribute [local irreducible] Go.E.wpL Go.E.wpS
variable {B w : World} {L : List As}
theorem wx_clear (ab : Nat) (c : Ct.Call) (s : Ct.St) (h : SH B w (arA ab s::L)) (hk : c.kind=12) (hs : Ct.Rm 60 s) : Calls Tryz.prog 17 #[(arSto ab).v,.agg (trieC c.trie).toArray] w fun e w'=>∃ tb,e=.returned (.pointer (some ⟨tb,0,none⟩))∧SH B w' (taskA (arSto ab) 99999999 tb ((Ct.progT c Ct.FU).head s).2 0::(arSto ab).a ((Ct.progT c Ct.FU).head s).1::L):=by
 refine (p_clear_any (arSto ab) 99999999 c.trie s (toSto h) hs).mono ?_
 rintro e w' ⟨tb,s',u,hq,rfl,h⟩
 have e0 : (Ct.progT c Ct.FU).head s=(s',u):=by
  unfold Ct.progT
  rw [hk,if_neg (by decide),if_neg (by decide),if_neg (by decide),if_neg (by decide),if_neg (by decide)]
  exact hq
 rw [e0]
 exact ⟨tb,rfl,h⟩
theorem lrun_one (ab mb tb xb pb n : Nat) (g : Ct.Ga) (s : Ct.St) (c : Ct.Call) (h : SH B w (taskA (arSto ab) n tb ((Ct.progT c Ct.FU).head s).2 0::(arSto ab).a ((Ct.progT c Ct.FU).head s).1::XA xb mb (Ct.stepX (Ct.callI c Ct.FU) 0 ⟨{ call:=c },s⟩)::osl 56 2 (.slice (some ⟨pb,0,none⟩) 1 1) 1 [.pointer (some ⟨tb,0,none⟩),.pointer (some ⟨xb,0,none⟩)]::L))
  (hl : Ct.Lkd 0 g s []) (hs : s.size+1000≤38000000000) (hn : 400≤n) (hc : Ct.CallOk g c) (hm : c.mask<18446744073709551616) (hk : c.key.size≤9223372036854775807) (hok : Ct.Ok 50 (Ct.stepX (Ct.callI c Ct.FU) 0 ⟨{ call:=c },s⟩)) :
  Calls Tryz.prog 16 #[.pointer (some ⟨ab,0,none⟩),.pointer (some ⟨mb,0,none⟩),.slice none 0 0,.slice (some ⟨pb,0,none⟩) 1 1] w fun e w'=>e=.returned (.bool true)∧SH B w' L:=by
 obtain ⟨g',u,h1,_,_,hL⟩:=hl.add (tb:=tb) (xb:=xb) hs hc hm hk hok
 rw [h1] at h
 have h:=SH.tLess hn h
 have h:=tkAdd (ys:=[]) (xb:=xb) (e:=(Ct.stepX (Ct.callI c Ct.FU) 0 ⟨{ call:=c },s⟩).e) ((tkNil (S:=arSto ab) (n:=400) h).fr (.c r1 .n))
 have h:=SH.exAdd (zs:=[]) ((SH.exNil (mb:=mb) (h.fr (.c r2 .n))).fr (.c r1 .n))
 have h:=SH.fz (h.fr (.c r4 .n))
 have h:=SH.nilr 1 h
 exact lrun_any ab mb g' _ _ [(tb,xb)] [] (some ⟨pb,0,none⟩) none 1 0 (h.fr (.c r4 (.c r2 (.c r2 (.c r2 (.c r1 .n)))))) hL rfl (by show 0<1; decide) (by show 1≤100; decide)
theorem WipeExact_any (l0 : List Int) (p0 : Option Addr) (c0 : Nat) (l1 : List Int) (p1 : Option Addr) (c1 : Nat) (h : SH B w (rsl 1 (.slice p0 l0.length c0) l0.length (l0.map (Value.int .i64))::rsl 1 (.slice p1 l1.length c1) l1.length (l1.map (Value.int .i64))::L)) :
  Calls Tryz.prog 3 #[.slice p0 l0.length c0,.slice p1 l1.length c1] w fun e w'=>e=.returned (.bool true)∧SH B w' L:=by
 refine bgn (args:=[_,_]) Tryz.func3 rfl Tryz.ntmps3 rfl ?_
 refine sq<|rg<|st (sg rfl)<|xe<|nx<|sq<|rg<|st (mv rfl)<|cl (ca en_11 rfl) ((worlds_any l0 p0 c0 (h.fr (.c r0 .n))).mono ?_)
 rintro _ w ⟨b,mb,mask,g,s,ts,zs,hmk,hW,rfl,h⟩
 have hsz : s.size≤37000000000:=by have:=hW.size; omega
 refine ⟨_,rfl,?_⟩
 refine st (sg rfl)<|xe<|nx<|sq<|?_
 have h:=h.fr (.c r0 .n)
 obtain ⟨⟨twp,twc,xwp,xwc⟩,h⟩:=h.wo
 have h : SH B w (bl b ([.pointer (some ⟨mb,0,none⟩),.int .u64 ((mask : Nat) : Int),.slice twp ts.length twc,.slice xwp zs.length xwc]) 32::osl 35 2 (.slice twp ts.length twc) ts.length (ts.flatMap trieC)::osl 53 1 (.slice xwp zs.length xwc) zs.length (zs.flatMap pxC)::exsA mb zs::memA mb s::rsl 1 (.slice p1 l1.length c1) l1.length (l1.map (Value.int .i64))::L):=h
 refine rg<|st (mv rfl)<|st (nc rfl rfl)<|st (fa fo_32_0 rfl)<|st (ld one_27 rfl (h.c a0 rfl))<|cl (ca en_12 rfl) ((lstart_any mb s (h.fr (.c r4 .n)) (by omega) (Ct.proper_of hW.gw hW.typ) (nodes_small hW.fit (by omega))).mono ?_)
 rintro _ w ⟨ab,rfl,h⟩
 obtain ⟨hl0,hs0⟩:=hW.lkd
 refine ⟨_,rfl,?_⟩
 refine st (sg rfl)<|xe<|nx<|sq<|sq<|rg<|st (mv rfl)<|st (bpe un_25 rfl rfl)<|xe<|nx<|cF rfl<|sk<|nx<|sq<|?_
 have h:=h.fr (.c r2 (.c r2 (.c r2 .n)))
 have h : SH B w (wldA b mb mask ts zs::arA ab { s with acc:=0 }::memA mb { s with acc:=0 }::exsA mb zs::rsl 1 (.slice p1 l1.length c1) l1.length (l1.map (Value.int .i64))::L):=SH.wi ⟨twp,twc,xwp,xwc⟩ h
 refine rg<|st (mv rfl)<|st (mv rfl)<|cl (ca en_14 rfl) ((new_e l1 p1 c1 (h.fr (.c r4 .n))).mono ?_)
 rintro _ w ⟨tpb,rfl,h⟩
 refine ⟨_,rfl,?_⟩
 refine cl (ca en_13 rfl) ((wcall_any b mb tpb mask ts zs l1 12 (h.fr (.c r1 (.c r0 .n))) hW.some hW.five (by decide) (by decide) hW.first).mono ?_)
 rintro _ w ⟨c,hck,hcm,hcky,hct,hcw,rfl,h⟩
 have hcok : Ct.CallOk g c:=hW.callOk (by rw [hck]; decide) (by rw [hck]; decide) hct hcw
 have hcm2 : c.mask<18446744073709551616:=by rw [hcm]; exact hmk
 have hcky2 : c.key.size≤9223372036854775807:=by omega
 have hst:=Ct.start_ready (c:=c) hl0.fit (by unfold Ct.room; omega)
 refine ⟨_,rfl,?_⟩
 refine sf (al h zc_45)<|?_
 rintro _ w ⟨b1,rfl,h⟩
 refine sf (so h rfl rfl rfl sz_45 rfl (.r (.r (.r (.r (.r (.r (.r (.r (.r (.r (.r (.r (.r (.r (.r (.r (.r (.r (.r (.r (.r (.r (.r (.r (.r .d))))))))))))))))))))))))) u0)<|?_
 rintro _ w h
 refine xe<|nx<|sq<|?_
 have h:=h.fr (.c r1 .n)
 obtain ⟨⟨twp,twc,xwp,xwc⟩,h⟩:=h.wo
 have h : SH B w (bl b ([.pointer (some ⟨mb,0,none⟩),.int .u64 ((mask : Nat) : Int),.slice twp ts.length twc,.slice xwp zs.length xwc]) 32::osl 35 2 (.slice twp ts.length twc) ts.length (ts.flatMap trieC)::osl 53 1 (.slice xwp zs.length xwc) zs.length (zs.flatMap pxC)::bl b1 ([.int .i64 c.kind,.int .i64 c.trie.root,.bool c.trie.readOnly,.int .i64 c.a,.int .i64 c.b,.int .i64 c.n,.int .i64 c.index,.int .u64 ((c.hash : Nat) : Int),.int .u64 ((c.mask : Nat) : Int),.string c.key,.int .u64 ((c.value : Nat) : Int),.int .u64 ((c.expect : Nat) : Int),.int .i64 c.policy,.bool c.only,.bool c.walk.started,.slice none 0 0,.slice none 0 0,.int .i64 c.answer.err,.bool c.answer.found,.int .u64 ((c.answer.value : Nat) : Int),.string c.answer.key,.int .i64 c.answer.count,.int .i64 c.answer.ref,.int .i64 c.answer.trie.root,.bool c.answer.trie.readOnly]) 45::tapE tpb l1::arA ab { s with acc:=0 }::memA mb { s with acc:=0 }::exsA mb zs::L):=h
 refine drH [0,3,5,7,9,11,13,15,17,19,21,25,27,29,31,33,22,34,37,38,40,43,44] (by kernel_rfl) h (.c r0 (.c r2 .n)) fun w h=>cs (ca en_15 rfl) ((awake_any (h.fr .n)).mono ?_)
 rintro _ w ⟨rfl,h⟩
 refine ⟨_,rfl,h.hs (.c r0 (.c r2 .n)),?_⟩
 refine tk (fun W H=>mv rfl)<|gTs rfl rfl rfl<|tk (fun W H=>mv rfl)<|gTs rfl rfl rfl<|tk (fun W H=>mv rfl)<|gTs rfl rfl rfl<|tk (fun W H=>nc rfl rfl)<|gTs rfl rfl rfl<|tk (fun W H=>fa fo_32_0 rfl)<|gTs rfl rfl rfl<|tk (fun W H=>ld one_27 rfl (H.c a0 rfl))<|gTs rfl rfl rfl<|tk (fun W H=>mv rfl)<|gTs rfl rfl rfl<|tk (fun W H=>mi un_25 rfl rfl)<|gTs rfl rfl rfl<|tk (fun W H=>fa fo_45_1 rfl)<|gTs rfl rfl rfl<|tk (fun W H=>ldr (cs:=[.int .i64 c.trie.root,.bool c.trie.readOnly]) rfl (rows_of (H.b a1) 1 rfl) row_35)<|gTs rfl rfl rfl<|tk (fun W H=>mv rfl)<|gTs rfl rfl rfl<|tk (fun W H=>nc rfl rfl)<|gTs rfl rfl rfl<|tk (fun W H=>fa fo_32_0 rfl)<|gTs rfl rfl rfl<|tk (fun W H=>ld one_27 rfl (H.c a0 rfl))<|gTs rfl rfl rfl<|tk (fun W H=>ldr rfl (rows_all (H.b a1)) row_45)<|gTs rfl rfl rfl<|cs (ca en_17 rfl) ((wx_clear ab c { s with acc:=0 } (h.fr (.c r5 .n)) hck ⟨hl0.fit,by unfold Ct.roomMax; omega⟩).mono ?_)
 rintro _ w ⟨tkb,rfl,h⟩
 refine ⟨_,rfl,h.hs (.c r2 (.c r4 .n)),?_⟩
 refine gTs rfl rfl rfl<|cs (ca en_18 rfl) ((start_any mb { s with acc:=0 } c Ct.FU (h.fr (.c r7 .n)) hst.1 hst.2 (by decide) hcm2 hcky2 hcok.lo hcok.hi).mono ?_)
 rintro _ w ⟨xb,rfl,h,hok⟩
 refine ⟨_,rfl,h.hs (.c r3 (.c r5 .n)),?_⟩
 refine gTs rfl rfl rfl<|tk (fun W H=>bd [.pointer (some ⟨tkb,0,none⟩),.pointer (some ⟨xb,0,none⟩)] bd_56 rfl (by kernel_rfl))<|gTs rfl rfl rfl<|ff (bu [.pointer (some ⟨tkb,0,none⟩),.pointer (some ⟨xb,0,none⟩)] h sl_87 ss_56 rfl (by kernel_rfl) rfl (by decide) (by decide))<|?_
 rintro _ w ⟨b2,rfl,h⟩
 refine ⟨h.hs (.c r4 (.c r6 .n)),?_⟩
 refine gTs rfl rfl rfl<|cs (ca en_16 rfl) ((lrun_one ab mb tkb xb b2 99999999 g { s with acc:=0 } c (h.fr (.c r2 (.c r2 (.c r1 (.c r0 .n))))) hl0 (by omega) (by decide) hcok hcm2 hcky2 hok).mono ?_)
 rintro _ w ⟨rfl,h⟩
 refine ⟨_,rfl,h.hs (.c r0 (.c r2 .n)),?_⟩
 refine tk (fun W H=>pT rfl rfl rfl)<|ef (sg rfl) (h.hs (.c r0 (.c r2 .n)))<|xz<|nx<|rt<|?_
 refine rr (res1 Tryz.results3 rfl)<|⟨rfl,h.drop.drop.drop.drop.drop.drop⟩
end Go.Proofs.YtmliojdkmfhmmaaGreat
end
