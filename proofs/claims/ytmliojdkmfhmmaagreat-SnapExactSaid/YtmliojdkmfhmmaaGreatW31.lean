/- Parts of a proof: Cw, Lp. -/
import Derived.Test.YtmliojdkmfhmmaaGreatW09
import Derived.Test.YtmliojdkmfhmmaaGreatW30
import Derived.Test.YtmliojdkmfhmmaaGreatW26
set_option linter.unusedVariables false
set_option linter.unusedSimpArgs false
set_option maxRecDepth 100000
set_option maxHeartbeats 4000000
section
namespace Go.Proofs.YtmliojdkmfhmmaaGreat
attribute [local irreducible] Go.E.wpL Go.E.wpS Go.E.X Go.E.XS Go.E.C Go.E.thn Go.E.blk Go.E.fin Go.E.Y Go.E.U Go.E.F Go.E.Ca Go.E.Res Go.E.bl Go.E.rb Go.E.osl Go.E.rsl Go.E.ex Go.E.ce Go.E.pu Go.E.sK Go.E.gK Go.E.bK Go.E.zK Go.E.boxA Go.E.cloA Go.E.codeA clA cdA klA
open Go.RowKit Go.E
open Go.Ct (qN qA qC qG qT qF)
variable {B w : World} {L : List As}
theorem sbegun_any (S : Sto) (s : Ct.St) (m0 : Int) (h : SH B w (S.a s::L)) (hs : Ct.Rm 2 s) :
  Calls Tryz.prog 121 #[S.v,.int .i64 m0] w fun e w'=>e=.returned (.int .i64 (s.newGen.1.alloc { kind:=2,gen:=s.newGen.2 } m0).2)∧SH B w' (S.a (s.newGen.1.alloc { kind:=2,gen:=s.newGen.2 } m0).1::L):=by
 refine bn0 Tryz.func121 Tryz.ntmps121 h fun w h=>?_
 refine cl (ci (S.sG h a0) rfl rfl) ((snewGen_any S s h.to hs).mono ?_)
 rintro _ w ⟨rfl,h⟩
 have hs:=hs.gen
 refine ⟨_,rfl,?_⟩
 refine go h fun w h=>?_
 refine drH [1,3,7,9,11,13,4,14,16] (by kernel_rfl) h .n fun w h=>go h fun w h=>?_
 refine tk (fun W H=>ncM rfl (S.na _))<|go h fun w h=>?_
 refine s000 (nInner_any _ h.to) fun w h=>?_
 refine cs (ci (S.sA h a0) rfl rfl) ((salloc_any S s.newGen.1 ({ kind:=2,gen:=s.newGen.2 } : Ct.Node) {} m0 (SH.nilN ({ kind:=2,gen:=s.newGen.2 } : Ct.Node) rfl rfl h.to) hs (Ct.fit_small _ 2 s.newGen.2 0 0 0)).mono ?_)
 rintro _ w ⟨rfl,h⟩
 have hs:=hs.alloc (Ct.fit_small _ 2 s.newGen.2 0 0 0) m0
 refine ⟨_,rfl,h.hs .n,?_⟩
 refine go h fun w h=>?_
 exact rz ⟨rfl,h⟩
theorem p_copied_any (S : Sto) (m0 : Int) (n : Nat) (s : Ct.St) (h : SH B w (S.a s::L)) (hs : Ct.Rm 30 s) :
  Calls Tryz.prog 71 #[S.v,.int .i64 m0] w fun e w'=>CP S resF n B (Ct.copiedT m0) s L e w':=by
 refine bn0 Tryz.func71 Tryz.ntmps71 h fun w h=>?_
 refine jA h fun b1 w h=>?_
 refine cl (ca en_121 rfl) ((sbegun_any S s m0 (h.fr (.c r1 .n)) (hs.less (by decide))).mono ?_)
 rintro _ w ⟨rfl,h⟩
 have hs:=hs.gen.alloc (Ct.fit_small _ 2 s.newGen.2 0 0 0) m0
 refine ⟨_,rfl,?_⟩
 refine st (sg rfl)<|xe<|nx<|sq<|rg<|st (mv rfl)<|st (mv rfl)<|?_
 refine go h fun w h=>?_
 refine cl (ci (S.sC h a0) rfl rfl) ((snewCell_any S (s.newGen.1.alloc { kind:=2,gen:=s.newGen.2 } m0).1 (s.newGen.1.alloc { kind:=2,gen:=s.newGen.2 } m0).2 h.to hs).mono ?_)
 rintro _ w ⟨rfl,h⟩
 have hs:=hs.cell (s.newGen.1.alloc { kind:=2,gen:=s.newGen.2 } m0).2
 refine ⟨_,rfl,?_⟩
 refine go h fun w h=>?_
 refine cl (ca en_90 rfl) ((tDone_any ({ found:=true,trie:={ root:=((s.newGen.1.alloc { kind:=2,gen:=s.newGen.2 } m0).1.newCell (s.newGen.1.alloc { kind:=2,gen:=s.newGen.2 } m0).2).2 } } : Ct.Result) (h.fr .n)).mono ?_)
 rintro _ w ⟨rfl,h⟩
 refine ⟨_,rfl,?_⟩
 refine sf (so h rfl rfl rfl sz_110 (ccL_one _) (.r (.r (.r (.r (.r (.r (.r (.r (.r (.r (.r (.r (.r (.r .d)))))))))))))) u1)<|?_
 rintro _ w h
 refine xe<|nx<|rt<|?_
 refine go h fun w h=>?_
 refine rr (resC rfl rfl (h.b a1) Row.h) ?_
 have h:=kD (S:=S) (n:=n) (r:=({ found:=true,trie:={ root:=((s.newGen.1.alloc { kind:=2,gen:=s.newGen.2 } m0).1.newCell (s.newGen.1.alloc { kind:=2,gen:=s.newGen.2 } m0).2).2 } } : Ct.Result)) h
 exact cpI (qG (qA (qC rfl))) h.to
theorem p_frozen_any (S : Sto) (r : Int) (n : Nat) (s : Ct.St) (h : SH B w (S.a s::L)) (hs : Ct.Rm 30 s) :
  Calls Tryz.prog 131 #[S.v,.int .i64 r] w fun e w'=>CP S resF n B (Ct.frozenT r) s L e w':=by
 refine bn0 Tryz.func131 Tryz.ntmps131 h fun w h=>?_
 refine jA h fun b1 w h=>?_
 refine cl (ci (S.sC h a1) rfl rfl) ((snewCell_any S s r h.to hs).mono ?_)
 rintro _ w ⟨rfl,h⟩
 have hs:=hs.cell r
 refine ⟨_,rfl,?_⟩
 refine go h fun w h=>?_
 refine cl (ca en_90 rfl) ((tDone_any ({ found:=true,trie:={ root:=(s.newCell r).2,readOnly:=true } } : Ct.Result) (h.fr .n)).mono ?_)
 rintro _ w ⟨rfl,h⟩
 refine ⟨_,rfl,?_⟩
 refine sf (so h rfl rfl rfl sz_110 (ccL_one _) (.r (.r (.r (.r (.r (.r (.r (.r (.r (.r (.r (.r (.r (.r .d)))))))))))))) u1)<|?_
 rintro _ w h
 refine xe<|nx<|rt<|?_
 refine go h fun w h=>?_
 refine rr (resC rfl rfl (h.b a1) Row.h) ?_
 have h:=kD (S:=S) (n:=n) (r:=({ found:=true,trie:={ root:=(s.newCell r).2,readOnly:=true } } : Ct.Result)) h
 exact cpI (qC rfl) h.to
def PartedOk (S : Sto) (N n : Nat) : Prop:=∀ (t : Ct.Trie) (th : Fv) (k : Int × Int→Ct.I Ct.Result) (B w : World) (L : List As) (s : Ct.St),SH B w (klA S resF n 60 int2A k th::S.a s::L)→Ct.Rm 30 s →
 Calls Tryz.prog 72 #[.agg [S.v,.int .i64 t.root,.bool t.readOnly].toArray,th.val] w fun e w'=>CP S resF n B (Ct.partedT t (fun a b=>k (a,b)) N) s L e w'
theorem p_part3_any (S : Sto) (N n : Nat) (hrec : ∀ j,j≤n→PartedOk S N j) (cb0 cb1 cb2 cb3 : Nat) (t : Ct.Trie) (thk : Fv) (k : Int × Int→Ct.I Ct.Result) (r : Int) (m0 : Int) {m : Nat} (hm : m≤n) (ok : Bool) (s : Ct.St) (h : SH B w (rb cb0 ([S.v,.int .i64 t.root,.bool t.readOnly]) 103::rb cb1 [thk.val] 138::rb cb2 ([.int .i64 r]) 36::rb cb3 ([.int .i64 m0]) 36::clA S resF n 60 int2A k thk::S.a s::L)) (hs : Ct.Rm 60 s) :
  Calls Tryz.prog 124 #[.bool ok,.pointer (some ⟨cb0,0,none⟩),.pointer (some ⟨cb1,0,none⟩),.pointer (some ⟨cb2,0,none⟩),.pointer (some ⟨cb3,0,none⟩)] w fun e w'=>CP S resF m B ((fun ok_b=>bif !ok_b then Ct.partedT t (fun a b=>k (a,b)) N else k (r,m0)) ok) s L e w':=by
 have h:=clLess hm (Nat.le_refl _) (h.fr (.c r4 .n))
 refine bn0 Tryz.func124 Tryz.ntmps124 h fun w h=>?_
 refine jA h fun b1 w h=>?_
 refine qc h (fun hd2 w h=>?_) fun hd2 w h=>?_
 have hd3 : ok=false:=(Bool.not_eq_true' _).mp hd2
 refine go h fun w h=>?_
 have h:=clKl (j:=60) (by decide) (h.fr (.c r1 .n))
 refine j310 (hrec m hm t thk k _ _ _ s h.to (hs.less (by decide))) fun s4 t5 c6 hq7 w h=>?_
 refine rr (resC rfl rfl (h.b a2) Row.h) ?_
 exact cpI (qT hd2 (hq7)) h.to
 have hd8 : ok=true:=(Bool.not_eq_false' _).mp hd2
 refine go h fun w h=>?_
 refine cvF rfl rfl ((callk (h.fr (.c r1 (.c r5 .n))) (hs.less (by decide)) (r,m0)).mono ?_)
 rintro _ w ⟨s9,t10,c11,hq12,rfl,h⟩
 refine ⟨_,rfl,?_⟩
 refine go h fun w h=>?_
 refine rr (resC rfl rfl (h.b a2) Row.h) ?_
 exact cpI (qF hd2 (hq12)) h.to
theorem p_part2_any (S : Sto) (N n : Nat) (hrec : ∀ j,j≤n→PartedOk S N j) (cb0 cb1 cb2 : Nat) (t : Ct.Trie) (r : Int) (thk : Fv) (k : Int × Int→Ct.I Ct.Result) {m : Nat} (hm : m≤n) (x : Int) (s : Ct.St) (h : SH B w (rb cb0 ([S.v,.int .i64 t.root,.bool t.readOnly]) 103::rb cb1 ([.int .i64 r]) 36::rb cb2 [thk.val] 138::clA S resF n 60 int2A k thk::S.a s::L)) (hs : Ct.Rm 60 s) :
  Calls Tryz.prog 123 #[.int .i64 x,.pointer (some ⟨cb0,0,none⟩),.pointer (some ⟨cb1,0,none⟩),.pointer (some ⟨cb2,0,none⟩)] w fun e w'=>CP S resF m B ((fun m0_b=>.gen fun g_b=>.alloc { kind:=2,gen:=g_b } m0_b fun i_b=>Ct.replaceT t r m0_b i_b fun ok_b=>bif !ok_b then Ct.partedT t (fun a b=>k (a,b)) N else k (r,m0_b)) x) s L e w':=by
 have h:=clLess hm (Nat.le_refl _) (h.fr (.c r3 .n))
 refine bn0 Tryz.func123 Tryz.ntmps123 h fun w h=>?_
 refine jX h fun b1 w h=>?_
 refine jA h fun b2 w h=>?_
 refine cl (ca en_121 rfl) ((sbegun_any S s x (h.fr (.c r6 .n)) (hs.less (by decide))).mono ?_)
 rintro _ w ⟨rfl,h⟩
 have hs:=hs.gen.alloc (Ct.fit_small _ 2 s.newGen.2 0 0 0) x
 refine ⟨_,rfl,?_⟩
 refine st (sg rfl)<|xe<|nx<|sq<|?_
 refine go h fun w h=>?_
 have h:=SH.rbz (h.fr (.c r2 .n))
 refine go h fun w h=>?_
 have h:=h.rbd a0
 have h:=h.rbd a6
 have h:=h.rbd a8
 have h:=h.rbd a7
 have h:=h.fr (.c r0 (.c r0 (.c r0 (.c r0 (.c r3 .n)))))
 have h:=mkk (j:=60) (S:=S) (F:=resF) (n:=m) (args:=boolA) (k:=(fun ok_b=>bif !ok_b then Ct.partedT t (fun a b=>k (a,b)) N else k (r,x))) (v:=(.fn 124 [] [.pointer (some ⟨cb0,0,none⟩),.pointer (some ⟨cb2,0,none⟩),.pointer (some ⟨cb1,0,none⟩),.pointer (some ⟨b1,0,none⟩)])) [rb cb0 ([S.v,.int .i64 t.root,.bool t.readOnly]) 103,rb cb2 [thk.val] 138,rb cb1 ([.int .i64 r]) 36,rb b1 ([.int .i64 x]) 36,clA S resF m 60 int2A k thk] h fun m' hm' B' w' L' s' x' h' hs'=>cvI en_124 (p_part3_any S N m (fun j hj=>hrec j (Nat.le_trans hj hm)) cb0 cb2 cb1 b1 t thk k r x (Nat.le_of_lt hm') x' s' h' (hs'.less (by decide)))
 refine cl (ca en_111 rfl) ((p_replace_any S resF t r x (s.newGen.1.alloc { kind:=2,gen:=s.newGen.2 } x).2 (.fn 124 [] [.pointer (some ⟨cb0,0,none⟩),.pointer (some ⟨cb2,0,none⟩),.pointer (some ⟨cb1,0,none⟩),.pointer (some ⟨b1,0,none⟩)]) (fun ok_b=>bif !ok_b then Ct.partedT t (fun a b=>k (a,b)) N else k (r,x)) m (s.newGen.1.alloc { kind:=2,gen:=s.newGen.2 } x).1 (h.fr (.c r0 (.c r1 .n))) (hs.less (by decide))).mono ?_)
 rintro _ w ⟨s3,t4,c5,hq6,rfl,h⟩
 refine ⟨_,rfl,?_⟩
 refine sf (so h rfl rfl rfl sz_110 (ccL_one _) (.r (.r (.r (.r (.r (.r (.r (.r (.r (.r (.r (.r (.r (.r .d)))))))))))))) u3)<|?_
 rintro _ w h
 refine xe<|nx<|rt<|?_
 refine go h fun w h=>?_
 refine rr (resC rfl rfl (h.b a3) Row.h) ?_
 exact cpI (qG (qA (hq6))) h.to
theorem p_part1_any (S : Sto) (N n : Nat) (hrec : ∀ j,j≤n→PartedOk S N j) (cb0 cb1 : Nat) (t : Ct.Trie) (thk : Fv) (k : Int × Int→Ct.I Ct.Result) {m : Nat} (hm : m≤n) (x : Int) (s : Ct.St) (h : SH B w (rb cb0 ([S.v,.int .i64 t.root,.bool t.readOnly]) 103::rb cb1 [thk.val] 138::clA S resF n 60 int2A k thk::S.a s::L)) (hs : Ct.Rm 60 s) :
  Calls Tryz.prog 122 #[.int .i64 x,.pointer (some ⟨cb0,0,none⟩),.pointer (some ⟨cb1,0,none⟩)] w fun e w'=>CP S resF m B ((fun r_b=>Ct.readT t r_b fun m0_b=>.gen fun g_b=>.alloc { kind:=2,gen:=g_b } m0_b fun i_b=>Ct.replaceT t r_b m0_b i_b fun ok_b=>bif !ok_b then Ct.partedT t (fun a b=>k (a,b)) N else k (r_b,m0_b)) x) s L e w':=by
 have h:=clLess hm (Nat.le_refl _) (h.fr (.c r2 .n))
 refine bn0 Tryz.func122 Tryz.ntmps122 h fun w h=>?_
 refine jX h fun b1 w h=>?_
 refine jA h fun b2 w h=>?_
 have h:=SH.rbz (h.fr (.c r1 .n))
 refine go h fun w h=>?_
 have h:=h.rbd a4
 have h:=h.rbd a1
 have h:=h.rbd a5
 have h:=h.fr (.c r0 (.c r0 (.c r0 (.c r2 .n))))
 have h:=mkk (j:=60) (S:=S) (F:=resF) (n:=m) (args:=intA) (k:=(fun m0_b=>.gen fun g_b=>.alloc { kind:=2,gen:=g_b } m0_b fun i_b=>Ct.replaceT t x m0_b i_b fun ok_b=>bif !ok_b then Ct.partedT t (fun a b=>k (a,b)) N else k (x,m0_b))) (v:=(.fn 123 [] [.pointer (some ⟨cb0,0,none⟩),.pointer (some ⟨b1,0,none⟩),.pointer (some ⟨cb1,0,none⟩)])) [rb cb0 ([S.v,.int .i64 t.root,.bool t.readOnly]) 103,rb b1 ([.int .i64 x]) 36,rb cb1 [thk.val] 138,clA S resF m 60 int2A k thk] h fun m' hm' B' w' L' s' x' h' hs'=>cvI en_123 (p_part2_any S N m (fun j hj=>hrec j (Nat.le_trans hj hm)) cb0 b1 cb1 t x thk k (Nat.le_of_lt hm') x' s' h' (hs'.less (by decide)))
 refine cl (ca en_69 rfl) ((p_read_any S resF t x (.fn 123 [] [.pointer (some ⟨cb0,0,none⟩),.pointer (some ⟨b1,0,none⟩),.pointer (some ⟨cb1,0,none⟩)]) (fun m0_b=>.gen fun g_b=>.alloc { kind:=2,gen:=g_b } m0_b fun i_b=>Ct.replaceT t x m0_b i_b fun ok_b=>bif !ok_b then Ct.partedT t (fun a b=>k (a,b)) N else k (x,m0_b)) m s (h.fr (.c r0 (.c r4 .n))) (hs.less (by decide))).mono ?_)
 rintro _ w ⟨s3,t4,c5,hq6,rfl,h⟩
 refine ⟨_,rfl,?_⟩
 refine sf (so h rfl rfl rfl sz_110 (ccL_one _) (.r (.r (.r (.r (.r (.r (.r (.r (.r (.r (.r (.r (.r (.r .d)))))))))))))) u3)<|?_
 rintro _ w h
 refine xe<|nx<|rt<|?_
 refine go h fun w h=>?_
 refine rr (resC rfl rfl (h.b a3) Row.h) ?_
 exact cpI (hq6) h.to
theorem p_parted_step (S : Sto) (N n : Nat) (hrec : ∀ j,j<n→PartedOk S N j) (t : Ct.Trie) (thk : Fv) (k : Int × Int→Ct.I Ct.Result) (s : Ct.St) (h : SH B w (klA S resF n 60 int2A k thk::S.a s::L)) (hs : Ct.Rm 30 s) :
  Calls Tryz.prog 72 #[.agg [S.v,.int .i64 t.root,.bool t.readOnly].toArray,thk.val] w fun e w'=>CP S resF n B (Ct.partedT t (fun a b=>k (a,b)) (N+1)) s L e w':=by
 refine bn0 Tryz.func72 Tryz.ntmps72 h fun w h=>?_
 refine jX h fun b1 w h=>?_
 refine sf (bx h rfl (fv_cells _)) ?_
 rintro _ w ⟨b2,rfl,h⟩
 refine go h fun w h=>?_
 refine jA h fun b3 w h=>?_
 have h:=SH.rbz (h.fr (.c r2 .n))
 have h:=SH.rbz (h.fr (.c r2 .n))
 refine go h fun w h=>?_
 have h:=h.rbd a0
 have h:=h.rbd a2
 have h:=h.fr (.c r0 (.c r0 (.c r3 .n)))
 have h:=mkk (j:=60) (S:=S) (F:=resF) (n:=n) (args:=intA) (k:=(fun r_b=>Ct.readT t r_b fun m0_b=>.gen fun g_b=>.alloc { kind:=2,gen:=g_b } m0_b fun i_b=>Ct.replaceT t r_b m0_b i_b fun ok_b=>bif !ok_b then Ct.partedT t (fun a b=>k (a,b)) N else k (r_b,m0_b))) (v:=(.fn 122 [] [.pointer (some ⟨b1,0,none⟩),.pointer (some ⟨b2,0,none⟩)])) [rb b1 ([S.v,.int .i64 t.root,.bool t.readOnly]) 103,rb b2 [thk.val] 138,klA S resF n 60 int2A k thk] h fun m' hm' B' w' L' s' x' h' hs'=>cvI en_122 (p_part1_any S N m' (fun j hj=>hrec j (Nat.lt_of_le_of_lt hj hm')) b1 b2 t thk k (Nat.le_refl _) x' s' ((klGet hm' (h'.fr (.c r2 .n))).fr (.c r1 (.c r1 (.c r0 .n)))) (hs'.less (by decide)))
 refine cl (ca en_93 rfl) ((p_help_any S resF t (.fn 122 [] [.pointer (some ⟨b1,0,none⟩),.pointer (some ⟨b2,0,none⟩)]) (fun r_b=>Ct.readT t r_b fun m0_b=>.gen fun g_b=>.alloc { kind:=2,gen:=g_b } m0_b fun i_b=>Ct.replaceT t r_b m0_b i_b fun ok_b=>bif !ok_b then Ct.partedT t (fun a b=>k (a,b)) N else k (r_b,m0_b)) n s (h.fr (.c r0 (.c r3 .n))) (hs.less (by decide))).mono ?_)
 rintro _ w ⟨s4,t5,c6,hq7,rfl,h⟩
 refine ⟨_,rfl,?_⟩
 refine sf (so h rfl rfl rfl sz_110 (ccL_one _) (.r (.r (.r (.r (.r (.r (.r (.r (.r (.r (.r (.r (.r (.r .d)))))))))))))) u4)<|?_
 rintro _ w h
 refine xe<|nx<|rt<|?_
 refine go h fun w h=>?_
 refine rr (resC rfl rfl (h.b a4) Row.h) ?_
 exact cpI (hq7) h.to
theorem parted_any (S : Sto) : ∀ (N n : Nat),n≤N→PartedOk S (N+1) n
 | 0,n,hn=>fun t th k B w L s h hs=>p_parted_step S 0 n (fun j hj=>by omega) t th k s h hs
 | N+1,n,hn=>fun t th k B w L s h hs=>p_parted_step S (N+1) n (fun j hj=>parted_any S N j (by omega)) t th k s h hs
theorem p_snR2_any (S : Sto) (cb0 : Nat)  {n m : Nat} (hm : m≤n) (x : Int) (s : Ct.St) (h : SH B w (rb cb0 [S.v] 101::S.a s::L)) (hs : Ct.Rm 60 s) :
  Calls Tryz.prog 70 #[.int .i64 x,.pointer (some ⟨cb0,0,none⟩)] w fun e w'=>CP S resF m B ((Ct.copiedT) x) s L e w':=by
 refine bn0 Tryz.func70 Tryz.ntmps70 h fun w h=>?_
 refine jA h fun b1 w h=>?_
 refine cl (ca en_71 rfl) ((p_copied_any S x m s (h.fr (.c r2 .n)) (hs.less (by decide))).mono ?_)
 rintro _ w ⟨s2,t3,c4,hq5,rfl,h⟩
 refine ⟨_,rfl,?_⟩
 refine sf (so h rfl rfl rfl sz_110 (ccL_one _) (.r (.r (.r (.r (.r (.r (.r (.r (.r (.r (.r (.r (.r (.r .d)))))))))))))) u2)<|?_
 rintro _ w h
 refine xe<|nx<|rt<|?_
 refine go h fun w h=>?_
 refine rr (resC rfl rfl (h.b a2) Row.h) ?_
 exact cpI (hq5) h.to
theorem p_snR1_any (S : Sto) (cb0 cb1 : Nat) (t : Ct.Trie) {n m : Nat} (hm : m≤n) (x : Int) (s : Ct.St) (h : SH B w (rb cb0 ([S.v,.int .i64 t.root,.bool t.readOnly]) 103::rb cb1 [S.v] 101::S.a s::L)) (hs : Ct.Rm 60 s) :
  Calls Tryz.prog 68 #[.int .i64 x,.pointer (some ⟨cb0,0,none⟩),.pointer (some ⟨cb1,0,none⟩)] w fun e w'=>CP S resF m B ((fun r_b=>Ct.readT t r_b Ct.copiedT) x) s L e w':=by
 refine bn0 Tryz.func68 Tryz.ntmps68 h fun w h=>?_
 refine jA h fun b1 w h=>?_
 have h:=h.rbd a2
 have h:=h.fr (.c r0 .n)
 have h:=mkk (j:=60) (S:=S) (F:=resF) (n:=m) (args:=intA) (k:=Ct.copiedT) (v:=(.fn 70 [] [.pointer (some ⟨cb1,0,none⟩)])) [rb cb1 [S.v] 101] h fun m' hm' B' w' L' s' x' h' hs'=>cvI en_70 (p_snR2_any S cb1 (Nat.le_of_lt hm') x' s' h' (hs'.less (by decide)))
 refine cl (ca en_69 rfl) ((p_read_any S resF t x (.fn 70 [] [.pointer (some ⟨cb1,0,none⟩)]) Ct.copiedT m s (h.fr (.c r0 (.c r3 .n))) (hs.less (by decide))).mono ?_)
 rintro _ w ⟨s2,t3,c4,hq5,rfl,h⟩
 refine ⟨_,rfl,?_⟩
 refine sf (so h rfl rfl rfl sz_110 (ccL_one _) (.r (.r (.r (.r (.r (.r (.r (.r (.r (.r (.r (.r (.r (.r .d)))))))))))))) u2)<|?_
 rintro _ w h
 refine xe<|nx<|rt<|?_
 refine go h fun w h=>?_
 refine rr (resC rfl rfl (h.b a2) Row.h) ?_
 exact cpI (hq5) h.to
theorem p_snP_any (S : Sto) (cb0 : Nat)  {n m : Nat} (hm : m≤n) (x1 x2 : Int) (s : Ct.St) (h : SH B w (rb cb0 [S.v] 101::S.a s::L)) (hs : Ct.Rm 60 s) :
  Calls Tryz.prog 73 #[.int .i64 x1,.int .i64 x2,.pointer (some ⟨cb0,0,none⟩)] w fun e w'=>CP S resF m B ((fun p_b=>Ct.copiedT p_b.2) (x1,x2)) s L e w':=by
 refine bn0 Tryz.func73 Tryz.ntmps73 h fun w h=>?_
 refine jA h fun b1 w h=>?_
 refine cl (ca en_71 rfl) ((p_copied_any S x2 m s (h.fr (.c r2 .n)) (hs.less (by decide))).mono ?_)
 rintro _ w ⟨s2,t3,c4,hq5,rfl,h⟩
 refine ⟨_,rfl,?_⟩
 refine sf (so h rfl rfl rfl sz_110 (ccL_one _) (.r (.r (.r (.r (.r (.r (.r (.r (.r (.r (.r (.r (.r (.r .d)))))))))))))) u2)<|?_
 rintro _ w h
 refine xe<|nx<|rt<|?_
 refine go h fun w h=>?_
 refine rr (resC rfl rfl (h.b a2) Row.h) ?_
 exact cpI (hq5) h.to
theorem p_sn0_any (S : Sto) (N n : Nat) (hrec : ∀ j,j≤n→PartedOk S N j) (cb0 cb1 cb2 : Nat) (t : Ct.Trie) {m : Nat} (hm : m≤n) (s : Ct.St) (h : SH B w (rb cb0 ([.int .i64 t.root,.bool t.readOnly]) 35::rb cb1 ([S.v,.int .i64 t.root,.bool t.readOnly]) 103::rb cb2 [S.v] 101::S.a s::L)) (hs : Ct.Rm 60 s) :
  Calls Tryz.prog 66 #[.pointer (some ⟨cb0,0,none⟩),.pointer (some ⟨cb1,0,none⟩),.pointer (some ⟨cb2,0,none⟩)] w fun e w'=>CP S resF m B ((fun _=>Ct.snapshotT t N) ()) s L e w':=by
 refine bn0 Tryz.func66 Tryz.ntmps66 h fun w h=>?_
 refine jA h fun b1 w h=>?_
 refine qc h (fun hd2 w h=>?_) fun hd2 w h=>?_
 refine j000 (tLoad_any _ (.fn 68 [] [.pointer (some ⟨cb1,0,none⟩),.pointer (some ⟨cb2,0,none⟩)]) h.to) fun w h=>?_
 refine rr (resC rfl rfl (h.b a0) Row.h) ?_
 have h:=h.rbd a3
 have h:=h.rbd a3
 have h:=h.fr (.c r0 (.c r0 .n))
 have h:=mkt (S:=S) (F:=resF) (n:=m) (args:=intA) (k:=(fun r_b=>Ct.readT t r_b Ct.copiedT)) (v:=(.fn 68 [] [.pointer (some ⟨cb1,0,none⟩),.pointer (some ⟨cb2,0,none⟩)])) [rb cb1 ([S.v,.int .i64 t.root,.bool t.readOnly]) 103,rb cb2 [S.v] 101] h fun m' hm' B' w' L' s' x' h' hs'=>cvI en_68 (p_snR1_any S cb1 cb2 t (Nat.le_of_lt hm') x' s' h' (hs'.less (by decide)))
 have h:=kL (a:=t.root) h
 exact cpI (qT hd2 rfl) h.to
 have h:=h.rbd a3
 have h:=h.fr (.c r0 .n)
 have h:=mkk (j:=60) (S:=S) (F:=resF) (n:=m) (args:=int2A) (k:=(fun p_b=>Ct.copiedT p_b.2)) (v:=(.fn 73 [] [.pointer (some ⟨cb2,0,none⟩)])) [rb cb2 [S.v] 101] h fun m' hm' B' w' L' s' x' h' hs'=>cvI en_73 (p_snP_any S cb2 (Nat.le_of_lt hm') x'.1 x'.2 s' h' (hs'.less (by decide)))
 refine j310 (hrec m hm t (.fn 73 [] [.pointer (some ⟨cb2,0,none⟩)]) (fun p_b=>Ct.copiedT p_b.2) _ _ _ s h.to (hs.less (by decide))) fun s3 t4 c5 hq6 w h=>?_
 refine rr (resC rfl rfl (h.b a2) Row.h) ?_
 exact cpI (qF hd2 (hq6)) h.to
theorem p_snapshot_any (S : Sto) (N : Nat) (t : Ct.Trie) (s : Ct.St) (h : SH B w (S.a s::L)) (hs : Ct.Rm 60 s) :
  Calls Tryz.prog 29 #[S.v,.agg [.int .i64 t.root,.bool t.readOnly].toArray] w fun e w'=>∃ tb s' u,(Ct.snapshotT t (N+1)).head s=(s',u)∧e=.returned (.pointer (some ⟨tb,0,none⟩))∧SH B w' (taskA S N tb u 0::S.a s'::L):=by
 refine bn0 Tryz.func29 Tryz.ntmps29 h fun w h=>?_
 refine jX h fun b1 w h=>?_
 refine jX h fun b2 w h=>?_
 refine jA h fun b3 w h=>?_
 have h:=SH.rbz (h.fr (.c r1 .n))
 have h:=SH.rbz (h.fr (.c r1 .n))
 have h:=SH.rbz (h.fr (.c r2 .n))
 refine go h fun w h=>?_
 have h:=h.rbd a0
 have h:=h.rbd a2
 have h:=h.rbd a4
 have h:=h.fr (.c r0 (.c r0 (.c r0 .n)))
 have h:=mkl (S:=S) (F:=resF) (n:=N) (j:=60) (args:=unitA) (k:=(fun _=>Ct.snapshotT t (N+1))) (v:=(.fn 66 [] [.pointer (some ⟨b2,0,none⟩),.pointer (some ⟨b3,0,none⟩),.pointer (some ⟨b1,0,none⟩)])) [rb b2 ([.int .i64 t.root,.bool t.readOnly]) 35,rb b3 ([S.v,.int .i64 t.root,.bool t.readOnly]) 103,rb b1 [S.v] 101] h fun B' w' L' s' x' h' hs'=>cvI en_66 (p_sn0_any S (N+1) N (parted_any S N) b2 b3 b1 t (Nat.le_refl _)   s' h' hs')
 refine cl (ca en_55 rfl) ((tNew_any S N (.fn 66 [] [.pointer (some ⟨b2,0,none⟩),.pointer (some ⟨b3,0,none⟩),.pointer (some ⟨b1,0,none⟩)]) (fun _=>Ct.snapshotT t (N+1)) s (h.fr (.c r0 (.c r3 .n))) (hs.less (by decide))).mono ?_)
 rintro _ w ⟨tb4,s5,uz6,hq7,rfl,h⟩
 refine ⟨_,rfl,?_⟩
 refine st (sg rfl)<|xe<|nx<|rt<|?_
 refine go h fun w h=>?_
 exact rz ⟨tb4,s5,uz6,hq7,rfl,h.to⟩
theorem p_frR1_any (S : Sto) (cb0 : Nat)  {n m : Nat} (hm : m≤n) (x : Int) (s : Ct.St) (h : SH B w (rb cb0 [S.v] 101::S.a s::L)) (hs : Ct.Rm 60 s) :
  Calls Tryz.prog 130 #[.int .i64 x,.pointer (some ⟨cb0,0,none⟩)] w fun e w'=>CP S resF m B ((Ct.frozenT) x) s L e w':=by
 refine bn0 Tryz.func130 Tryz.ntmps130 h fun w h=>?_
 refine jA h fun b1 w h=>?_
 refine cl (ca en_131 rfl) ((p_frozen_any S x m s (h.fr (.c r2 .n)) (hs.less (by decide))).mono ?_)
 rintro _ w ⟨s2,t3,c4,hq5,rfl,h⟩
 refine ⟨_,rfl,?_⟩
 refine sf (so h rfl rfl rfl sz_110 (ccL_one _) (.r (.r (.r (.r (.r (.r (.r (.r (.r (.r (.r (.r (.r (.r .d)))))))))))))) u2)<|?_
 rintro _ w h
 refine xe<|nx<|rt<|?_
 refine go h fun w h=>?_
 refine rr (resC rfl rfl (h.b a2) Row.h) ?_
 exact cpI (hq5) h.to
theorem p_frP_any (S : Sto) (cb0 : Nat)  {n m : Nat} (hm : m≤n) (x1 x2 : Int) (s : Ct.St) (h : SH B w (rb cb0 [S.v] 101::S.a s::L)) (hs : Ct.Rm 60 s) :
  Calls Tryz.prog 132 #[.int .i64 x1,.int .i64 x2,.pointer (some ⟨cb0,0,none⟩)] w fun e w'=>CP S resF m B ((fun p_b=>Ct.frozenT p_b.1) (x1,x2)) s L e w':=by
 refine bn0 Tryz.func132 Tryz.ntmps132 h fun w h=>?_
 refine jA h fun b1 w h=>?_
 refine cl (ca en_131 rfl) ((p_frozen_any S x1 m s (h.fr (.c r2 .n)) (hs.less (by decide))).mono ?_)
 rintro _ w ⟨s2,t3,c4,hq5,rfl,h⟩
 refine ⟨_,rfl,?_⟩
 refine sf (so h rfl rfl rfl sz_110 (ccL_one _) (.r (.r (.r (.r (.r (.r (.r (.r (.r (.r (.r (.r (.r (.r .d)))))))))))))) u2)<|?_
 rintro _ w h
 refine xe<|nx<|rt<|?_
 refine go h fun w h=>?_
 refine rr (resC rfl rfl (h.b a2) Row.h) ?_
 exact cpI (hq5) h.to
theorem p_fr0_any (S : Sto) (N n : Nat) (hrec : ∀ j,j≤n→PartedOk S N j) (cb0 cb1 cb2 : Nat) (t : Ct.Trie) {m : Nat} (hm : m≤n) (s : Ct.St) (h : SH B w (rb cb0 ([.int .i64 t.root,.bool t.readOnly]) 35::rb cb1 [S.v] 101::rb cb2 ([S.v,.int .i64 t.root,.bool t.readOnly]) 103::S.a s::L)) (hs : Ct.Rm 60 s) :
  Calls Tryz.prog 129 #[.pointer (some ⟨cb0,0,none⟩),.pointer (some ⟨cb1,0,none⟩),.pointer (some ⟨cb2,0,none⟩)] w fun e w'=>CP S resF m B ((fun _=>Ct.freezeT t N) ()) s L e w':=by
 refine bn0 Tryz.func129 Tryz.ntmps129 h fun w h=>?_
 refine jA h fun b1 w h=>?_
 refine qc h (fun hd2 w h=>?_) fun hd2 w h=>?_
 refine j000 (tLoad_any _ (.fn 130 [] [.pointer (some ⟨cb1,0,none⟩)]) h.to) fun w h=>?_
 refine rr (resC rfl rfl (h.b a0) Row.h) ?_
 have h:=h.rbd a2
 have h:=h.fr (.c r0 .n)
 have h:=mkt (S:=S) (F:=resF) (n:=m) (args:=intA) (k:=Ct.frozenT) (v:=(.fn 130 [] [.pointer (some ⟨cb1,0,none⟩)])) [rb cb1 [S.v] 101] h fun m' hm' B' w' L' s' x' h' hs'=>cvI en_130 (p_frR1_any S cb1 (Nat.le_of_lt hm') x' s' h' (hs'.less (by decide)))
 have h:=kL (a:=t.root) h
 exact cpI (qT hd2 rfl) h.to
 have h:=h.rbd a2
 have h:=h.fr (.c r0 .n)
 have h:=mkk (j:=60) (S:=S) (F:=resF) (n:=m) (args:=int2A) (k:=(fun p_b=>Ct.frozenT p_b.1)) (v:=(.fn 132 [] [.pointer (some ⟨cb1,0,none⟩)])) [rb cb1 [S.v] 101] h fun m' hm' B' w' L' s' x' h' hs'=>cvI en_132 (p_frP_any S cb1 (Nat.le_of_lt hm') x'.1 x'.2 s' h' (hs'.less (by decide)))
 refine j310 (hrec m hm t (.fn 132 [] [.pointer (some ⟨cb1,0,none⟩)]) (fun p_b=>Ct.frozenT p_b.1) _ _ _ s h.to (hs.less (by decide))) fun s3 t4 c5 hq6 w h=>?_
 refine rr (resC rfl rfl (h.b a2) Row.h) ?_
 exact cpI (qF hd2 (hq6)) h.to
theorem p_freeze_any (S : Sto) (N : Nat) (t : Ct.Trie) (s : Ct.St) (h : SH B w (S.a s::L)) (hs : Ct.Rm 60 s) :
  Calls Tryz.prog 77 #[S.v,.agg [.int .i64 t.root,.bool t.readOnly].toArray] w fun e w'=>∃ tb s' u,(Ct.freezeT t (N+1)).head s=(s',u)∧e=.returned (.pointer (some ⟨tb,0,none⟩))∧SH B w' (taskA S N tb u 0::S.a s'::L):=by
 refine bn0 Tryz.func77 Tryz.ntmps77 h fun w h=>?_
 refine jX h fun b1 w h=>?_
 refine jX h fun b2 w h=>?_
 refine jA h fun b3 w h=>?_
 have h:=SH.rbz (h.fr (.c r1 .n))
 have h:=SH.rbz (h.fr (.c r2 .n))
 have h:=SH.rbz (h.fr (.c r2 .n))
 refine go h fun w h=>?_
 have h:=h.rbd a0
 have h:=h.rbd a2
 have h:=h.rbd a4
 have h:=h.fr (.c r0 (.c r0 (.c r0 .n)))
 have h:=mkl (S:=S) (F:=resF) (n:=N) (j:=60) (args:=unitA) (k:=(fun _=>Ct.freezeT t (N+1))) (v:=(.fn 129 [] [.pointer (some ⟨b2,0,none⟩),.pointer (some ⟨b1,0,none⟩),.pointer (some ⟨b3,0,none⟩)])) [rb b2 ([.int .i64 t.root,.bool t.readOnly]) 35,rb b1 [S.v] 101,rb b3 ([S.v,.int .i64 t.root,.bool t.readOnly]) 103] h fun B' w' L' s' x' h' hs'=>cvI en_129 (p_fr0_any S (N+1) N (parted_any S N) b2 b1 b3 t (Nat.le_refl _)   s' h' hs')
 refine cl (ca en_55 rfl) ((tNew_any S N (.fn 129 [] [.pointer (some ⟨b2,0,none⟩),.pointer (some ⟨b1,0,none⟩),.pointer (some ⟨b3,0,none⟩)]) (fun _=>Ct.freezeT t (N+1)) s (h.fr (.c r0 (.c r3 .n))) (hs.less (by decide))).mono ?_)
 rintro _ w ⟨tb4,s5,uz6,hq7,rfl,h⟩
 refine ⟨_,rfl,?_⟩
 refine st (sg rfl)<|xe<|nx<|rt<|?_
 refine go h fun w h=>?_
 exact rz ⟨tb4,s5,uz6,hq7,rfl,h.to⟩
end Go.Proofs.YtmliojdkmfhmmaaGreat
end
section
namespace Go.Ct
variable {g : Ga}
structure Px where
 tb : Nat:=0
 xb : Nat:=0
 k : Nat:=0
 e : Ex:={}
 u : I Result:=.ret {}
structure Lkd (i : Nat) (g : Ga) (s : St) (ys : List Px) : Prop where
 gw : GW g
 typ : Typ g s
 fit : AllFit s
 ex : ∀ z ∈ ys,z.e.got.length=z.k∧z.k≤i∧∃ u',Er g z.e z.u u'
 size : s.size≤38000000000+200000 * i
theorem Er.same {e : Ex} {u u' : I Result} (h : Er g e u u') : e.done=u.ended.isSome∧(u.ended=none→e.next=u.acc)∧∀ r,u.ended=some r→e.result=r:=by
 obtain ⟨h1,h2⟩:=h.sh.acc
 exact ⟨by rw [h.rest.done,← h2],fun q=>by rw [h.rest.next (by rw [← h2]; exact q),h1],fun r q=>h.rest.res r (by rw [← h2]; exact q)⟩
theorem Lkd.ready {i : Nat} {s : St} {ys : List Px} (h : Lkd i g s ys) (hi : i≤1000) {z : Px} (hz : z ∈ ys) : Ok 60 (repeatX 1 ⟨z.e,s⟩)∧(repeatX 1 ⟨z.e,s⟩).left<FU∧z.e.call.mask<18446744073709551616∧z.e.call.key.size≤9223372036854775807∧7≤z.e.call.kind∧z.e.call.kind≤12:=by
 obtain ⟨h1,h2,u',hE⟩:=h.ex z hz
 have hs:=h.size
 obtain ⟨a,b⟩:=hE.ready h.typ h.fit (by unfold room; omega)
 exact ⟨a,b,hE.mask,hE.key,hE.ok.lo,hE.ok.hi⟩
def Px.next (z : Px) (s : St) : Px:={ z with k:=z.k+1,e:=(stepX (callI z.e.call FU) 1 ⟨z.e,s⟩).e,u:=(z.u.step s).2 }
theorem Lkd.step {i j : Nat} {s : St} {ys : List Px} (h : Lkd i g s ys) (hi : i≤1000) (hj : j<ys.length) (hd : ys[j].e.done=false) (hok : Ok 50 (stepX (callI ys[j].e.call FU) 1 ⟨ys[j].e,s⟩)) :
  ((ys[j].u).step s).1=(stepX (callI ys[j].e.call FU) 1 ⟨ys[j].e,s⟩).s∧∃ g',Lkd (i+1) g' (stepX (callI ys[j].e.call FU) 1 ⟨ys[j].e,s⟩).s (ys.set j (ys[j].next s)):=by
 obtain ⟨h1,h2,u',hE⟩:=h.ex _ (List.getElem_mem hj)
 obtain ⟨g',v,v',e1,k2,w2,t2,f2,E2,l2,b2,b3⟩:=hE.step h.gw h.typ h.fit hd (by unfold most; omega) hok
 have hs:=h.size
 refine ⟨by rw [e1],g',w2,t2,f2,?_,by omega⟩
 intro z m
 rcases List.mem_or_eq_of_mem_set m with m | rfl
 ·obtain ⟨a,b,q,c⟩:=h.ex z m
  exact ⟨a,by omega,q,c.ge h.gw k2⟩
 ·refine ⟨by show (stepX (callI ys[j].e.call FU) 1 ⟨ys[j].e,s⟩).e.got.length=ys[j].k+1; rw [l2,h1],by show ys[j].k+1≤i+1; omega,v',?_⟩
  show Er g' _ ((ys[j].u).step s).2 v'
  rw [e1]; exact E2
theorem Lkd.add {i tb xb : Nat} {s : St} {ys : List Px} {c : Call} (h : Lkd i g s ys) (hs : s.size+1000≤38000000000) (hc : CallOk g c) (hm : c.mask<18446744073709551616) (hk : c.key.size≤9223372036854775807) (hok : Ok 50 (stepX (callI c FU) 0 ⟨{ call:=c },s⟩)) :
  ∃ g' u,(progT c FU).head s=((stepX (callI c FU) 0 ⟨{ call:=c },s⟩).s,u)∧Ge g g'∧(stepX (callI c FU) 0 ⟨{ call:=c },s⟩).s.size≤s.size+120∧Lkd i g' (stepX (callI c FU) 0 ⟨{ call:=c },s⟩).s (ys ++ [{ tb:=tb,xb:=xb,e:=(stepX (callI c FU) 0 ⟨{ call:=c },s⟩).e,u:=u }]):=by
 obtain ⟨g',u,u',h1,h2,h3,h4,h5,h6,h7,h8,h9,h10⟩:=Er.start h.gw h.typ h.fit hc hm hk hok
 refine ⟨g',u,h1,h2,h8,h3,h4,h5,?_,by omega⟩
 intro z m
 rcases List.mem_append.1 m with m | m
 ·obtain ⟨a,b,q,c'⟩:=h.ex z m
  exact ⟨a,b,q,c'.ge h.gw h2⟩
 ·rw [List.mem_singleton.1 m]
  exact ⟨by show (stepX (callI c FU) 0 ⟨{ call:=c },s⟩).e.got.length=0; rw [h7]; rfl,Nat.zero_le _,u',h6⟩
theorem Typ.acc {s : St} (h : Typ g s) (a : Nat) : Typ g { s with acc:=a } :=⟨h.nodes,h.gen,h.len,h.holds,h.dec⟩
theorem Wld.lkd {s : St} {ts : List Trie} {zs : List (Nat × Ex)} (h : Wld 36 g s ts zs) : Lkd 0 g { s with acc:=0 } []∧({ s with acc:=0 } : St).size+500≤37100000000:=by
 have hs:=h.size
 have : ({ s with acc:=0 } : St).size≤s.size:=by unfold St.size; dsimp only; omega
 exact ⟨⟨h.gw,h.typ.acc 0,h.fit,(fun z m=>by cases m),by omega⟩,by omega⟩
end Go.Ct
end
