/- Parts of a proof: Cr, Ayn, Ys. -/
import Derived.Test.YtmliojdkmfhmmaaGreatW31
import Derived.Test.YtmliojdkmfhmmaaGreatW26
import Derived.Test.YtmliojdkmfhmmaaGreatW41
import Derived.Deep.RegionHeld3
import Derived.Test.YtmliojdkmfhmmaaGreatW13
import Derived.Test.YtmliojdkmfhmmaaGreatW14
import Derived.Test.YtmliojdkmfhmmaaGreatW16
import Derived.Test.YtmliojdkmfhmmaaGreatW12
import Derived.Test.YtmliojdkmfhmmaaGreatW28
import Derived.Test.YtmliojdkmfhmmaaGreatW21
import Derived.Test.YtmliojdkmfhmmaaGreatW30
import Derived.Test.YtmliojdkmfhmmaaGreatW40
import Derived.Test.YtmliojdkmfhmmaaGreatW27
import Derived.Test.YtmliojdkmfhmmaaGreatW09
set_option linter.unusedVariables false
set_option linter.unusedSimpArgs false
set_option maxRecDepth 100000
set_option maxHeartbeats 4000000
section
namespace Go.Proofs.YtmliojdkmfhmmaaGreat
open Go.RowKit Go.E
variable {B w w' : World} {L : List As}
theorem code_world {P : Program} {c : Code} {Q : Exit→Act→World→Prop} {a : Act} {w W : World} (h : w=W) (hc : c.wp P Q a W) : c.wp P Q a w:=h ▸ hc
theorem info_Trie : (Tryz.prog.info? 35).map (·.size)=some 2:=by kernel_rfl
theorem createdD_idle (p : Addr) (w : World) :
  CallsD Tryz.prog 135 #[.pointer (some p)] .returning w fun e u' w'=>e=.returned (.tuple #[])∧u'=.returning∧w'=w:=by
 refine callsD_of_wpS Tryz.func135 rfl fun c₀ cs hu=>?_
 apply wpS_seq
 apply wpS_region
 simp [wpOpsS,go_sem,recoverD,hu,Tryz.ntmps135,Exit.thenS]
 refine wpS_cond (t:=false) (by simp [Act.eval,Array.replicate]) ?_
 refine wpS_of_wp (wp_skip ?_)
 cases c₀
 simp_all [bodyPostS,results,Tryz.results135]
theorem setTwo {b : Nat} {x y x' y' : Value} {t : TypeId} {L' : List As} (h : SH B w L) (u : Upd L L' (bl b [x,y] t) (bl b [x',y'] t)) : SH B ((w.setCell ⟨b,0,none⟩ x').setCell ⟨b,1,none⟩ y') L' :=
 h.step u fun O R hA=>⟨O,R,⟨by
  have h1:=heap_setCell_same w b 0 _ t x' hA.1
  have h2:=heap_setCell_same (w.setCell ⟨b,0,none⟩ x') b 1 _ t y' h1
  rw [h2]; rfl,hA.2⟩,⟨⟨rfl,rfl,rfl⟩,by simp [World.setCell],fun k hk hn=>by
   rw [heap_setCell_other _ _ _ _ (fun e=>hn ((hA.2.1 k).2 e)),heap_setCell_other _ _ _ _ (fun e=>hn ((hA.2.1 k).2 e))]⟩,fun k hk=>.inl hk,fun k hk=>.inr (.inl hk)⟩
theorem endTrie {fn : Func} {p : Tmp} {tmps : Array Value} {b : Nat} {t : Ct.Trie} {a : As} (hr : fn.results = #[.cell p 35]) (hp : tmps.getD p undef=.pointer (some ⟨b,0,none⟩)) (h : SH B w (bl b (trieC t) 35::a::L)) :
  ∃ v,(results fn tmps).run Tryz.prog w=.ok v w∧(Ending.returned v=.returned (.agg (trieC t).toArray)∧SH B w (a::L)):=by
 exact ⟨.agg (trieC t).toArray,results_cell_row hr _ _ b 35 _ (0,0) _ hp (h.b a0) Tryz.underlying35 rfl info_Trie,rfl,h.drop⟩
theorem created_s (S : Sto) (hM : ∀ w,Meth S.t S.x S.ab w) (s : Ct.St) (h : SH B w (S.a s::L)) (hs : Ct.Rm 60 s) :
  Calls Tryz.prog 81 #[S.v] w fun e w'=>e=.returned (.agg (trieC (Ct.createS s).2).toArray)∧SH B w' (S.a (Ct.createS s).1::L):=by
 have hmA : ∀ w, (method 411 S.t S.x "Alloc").run Tryz.prog w = .ok (355, pab S.ab) w := fun w => (hM w).alloc
 have hmC : ∀ w, (method 411 S.t S.x "NewCell").run Tryz.prog w = .ok (358, pab S.ab) w := fun w => (hM w).cell
 have hnA:=S.na
 have h1 : SH B (w.alloc (.cells [.int .i64 0,.bool false].toArray 35)) (bl w.heap.size [.int .i64 0,.bool false] 35::S.a s::L):=h.alloc
 obtain ⟨W0,hW0⟩ : ∃ W,w.alloc (.cells [.int .i64 0,.bool false].toArray 35)=W :=⟨_,rfl⟩
 rw [hW0] at h1
 have HW:=Lib.hid hW0
 have hmf : ∀ (fn : Fn) (first cap : Array Value) (w : World),(Instr.makeFunc fn first cap).run Tryz.prog w=.ok (.func fn first cap) w:=fun _ _ _ _=>rfl
 have R1:=Lib.hid h1.drew
 have HS:=Lib.hid hs
 clear h h1 hW0 hM hs
 unfold Sto.v
 go_enter_defers Tryz.func81,Tryz.ntmps81
 go_wp2_with fail
 refine code_world HW.out ?_
 refine wp_region_noPanic ?_
 go_region_with (first
  | (go_at_call 109; refine (nEmpty_any R1.out).mono ?_; rintro e w2 ⟨rfl,h2⟩; have R2:=Lib.hid h2; clear h2)
  | (go_at_call 355; refine (salloc_any S s { kind:=3 } {} 0 (SH.nilN _ rfl rfl (R2.out.fr (.c r1 .n))) HS.out (Ct.fit_empty _)).mono ?_; rintro e w3 ⟨rfl,h3⟩; have R3:=Lib.hid h3; clear h3))
 all_goals
  refine NoPanic.normal ?_
  go_wp2_with fail
  refine (sbegun_any S (s.alloc { kind:=3 } 0).1 (s.alloc { kind:=3 } 0).2 R3.out ((HS.out.alloc (Ct.fit_empty _) 0).less (by decide))).mono ?_
  rintro e w4 ⟨rfl,h4⟩
  have H4:=Lib.hid ((HS.out.alloc (Ct.fit_empty _) 0).gen.alloc (Ct.fit_small _ 2 (s.alloc { kind:=3 } 0).1.newGen.2 0 0 0) (s.alloc { kind:=3 } 0).2)
  have R4:=Lib.hid h4
  clear h4
  go_wp2_with fail
  refine (snewCell_any (j:=57) S _ _ R4.out H4.out).mono ?_
  rintro e w5 ⟨rfl,h5⟩
  have H5:=Lib.hid h5
  clear h5
  have he : ∃ r,r=((((s.alloc { kind:=3 } 0).1.newGen.1.alloc { kind:=2,gen:=(s.alloc { kind:=3 } 0).1.newGen.2 } (s.alloc { kind:=3 } 0).2).1.newCell ((s.alloc { kind:=3 } 0).1.newGen.1.alloc { kind:=2,gen:=(s.alloc { kind:=3 } 0).1.newGen.2 } (s.alloc { kind:=3 } 0).2).2).2) :=⟨_,rfl⟩
  obtain ⟨r,hr⟩:=he
  rw [← hr]
  have HR:=Lib.hid hr
  clear hr
  have hb:=H5.out.b a1
  have d0:=cell_of_row w5 w.heap.size 0 _ _ _ hb
  have d1:=cell_of_row w5 w.heap.size 1 _ _ _ hb
  have f0 : w5.frozen? ⟨w.heap.size,0,none⟩=false:=by simp [World.frozen?,hb]
  have f1 : w5.frozen? ⟨w.heap.size,1,none⟩=false:=by simp [World.frozen?,hb]
  simp only [List.getElem?_toArray,List.getElem?_cons_zero,List.getElem?_cons_succ] at d0 d1
  clear hb
  go_wp2_with fail
  refine leaves_cons (f:=135) (args:=#[.pointer (some ⟨w.heap.size,0,none⟩)]) (by simp) (by simp [go_sem]) ?_
  refine (createdD_idle ⟨w.heap.size,0,none⟩ _).mono ?_
  rintro e u' w'' ⟨rfl,rfl,rfl⟩
  have h6:=(setTwo (x':=.int .i64 r) (y':=.bool false) H5.out u1).fr (.c r1 .n)
  rw [HR.out] at h6 ⊢
  exact endTrie (b:=w.heap.size) (t:=(Ct.createS s).2) Tryz.results81 rfl h6
end Go.Proofs.YtmliojdkmfhmmaaGreat
end
section
namespace Go.Proofs.YtmliojdkmfhmmaaGreat
open Go.E
theorem eq_35 : eqf Tryz.prog 35 = some [.i .i64,.b]:=by kernel_rfl
theorem fv_35_0 : fv Tryz.prog 35 0=some (0,1,false):=by kernel_rfl
theorem fv_35_1 : fv Tryz.prog 35 1=some (1,1,false):=by kernel_rfl
theorem fv_43_6 : fv Tryz.prog 43 6=some (6,2,true):=by kernel_rfl
theorem en_76 : Ents Tryz.prog 76:=enG Tryz.func76 rfl rfl
theorem en_31 : Ents Tryz.prog 31:=enG Tryz.func31 rfl rfl
theorem en_37 : Ents Tryz.prog 37:=enG Tryz.func37 rfl rfl
theorem en_36 : Ents Tryz.prog 36:=enG Tryz.func36 rfl rfl
theorem en_38 : Ents Tryz.prog 38:=enG Tryz.func38 rfl rfl
theorem en_81 : Ents Tryz.prog 81:=enG Tryz.func81 rfl rfl
end Go.Proofs.YtmliojdkmfhmmaaGreat
end
section
namespace Go.Proofs.YtmliojdkmfhmmaaGreat
attribute [local irreducible] Go.E.wpL Go.E.wpS Go.E.X Go.E.XS Go.E.C Go.E.thn Go.E.blk Go.E.fin Go.E.Y Go.E.U Go.E.F Go.E.Ca Go.E.Res Go.E.bl Go.E.rb Go.E.osl Go.E.rsl Go.E.ex Go.E.ce Go.E.pu Go.E.sK Go.E.gK Go.E.bK Go.E.zK Go.E.boxA Go.E.cloA Go.E.codeA clA cdA klA
open Go.RowKit Go.E
variable {B w : World} {L : List As}
theorem pcreate_any (ab : Nat) (s : Ct.St) (h : SH B w ((arSto ab).a s::L)) (hs : Ct.Rm 60 s) :
  Calls Tryz.prog 38 #[(arSto ab).v] w fun e w'=>e=.returned (.agg (trieC (Ct.createS s).2).toArray)∧SH B w' ((arSto ab).a (Ct.createS s).1::L):=by
 refine bn0 Tryz.func38 Tryz.ntmps38 h fun w h=>?_
 refine jA h fun b1 w h=>?_
 refine cl (ca en_81 rfl) ((created_s (arSto ab) (arMeth ab) s (h.fr (.c r1 .n)) hs).mono ?_)
 rintro _ w ⟨rfl,h⟩
 refine ⟨_,rfl,?_⟩
 refine sf (so h rfl rfl rfl sz_35 rfl (.r (.r .d)) u1)<|?_
 rintro _ w h
 refine xe<|nx<|rt<|?_
 refine go h fun w h=>?_
 exact rr (resC rfl rfl (h.b a1) Row.h)<|⟨rfl,h.to⟩
theorem pcreate_a (ab : Nat) (s : Ct.St) (h : SH B w (arA ab s::L)) (hs : Ct.Rm 60 s) : Calls Tryz.prog 38 #[(arSto ab).v] w fun e w'=>e=.returned (.agg (trieC (Ct.createS s).2).toArray)∧SH B w' (arA ab (Ct.createS s).1::L):=by
 refine (pcreate_any ab s (toSto h) hs).mono ?_
 rintro e w' ⟨rfl,h⟩
 exact ⟨rfl,ofSto h⟩
theorem sx_freeze (ab : Nat) (c : Ct.Call) (s : Ct.St) (h : SH B w (arA ab s::L)) (hk : c.kind=11) (hs : Ct.Rm 60 s) : Calls Tryz.prog 77 #[(arSto ab).v,.agg (trieC c.trie).toArray] w fun e w'=>∃ tb,e=.returned (.pointer (some ⟨tb,0,none⟩))∧SH B w' (taskA (arSto ab) 99999999 tb ((Ct.progT c Ct.FU).head s).2 0::(arSto ab).a ((Ct.progT c Ct.FU).head s).1::L):=by
 refine (p_freeze_any (arSto ab) 99999999 c.trie s (toSto h) hs).mono ?_
 rintro e w' ⟨tb,s',u,hq,rfl,h⟩
 have e0 : (Ct.progT c Ct.FU).head s=(s',u):=by
  unfold Ct.progT
  rw [hk,if_neg (by decide),if_neg (by decide),if_neg (by decide),if_neg (by decide),if_pos (by decide)]
  exact hq
 rw [e0]
 exact ⟨tb,rfl,h⟩
theorem sx_snap (ab : Nat) (c : Ct.Call) (s : Ct.St) (h : SH B w (arA ab s::L)) (hk : c.kind=10) (hs : Ct.Rm 60 s) : Calls Tryz.prog 29 #[(arSto ab).v,.agg (trieC c.trie).toArray] w fun e w'=>∃ tb,e=.returned (.pointer (some ⟨tb,0,none⟩))∧SH B w' (taskA (arSto ab) 99999999 tb ((Ct.progT c Ct.FU).head s).2 0::(arSto ab).a ((Ct.progT c Ct.FU).head s).1::L):=by
 refine (p_snapshot_any (arSto ab) 99999999 c.trie s (toSto h) hs).mono ?_
 rintro e w' ⟨tb,s',u,hq,rfl,h⟩
 have e0 : (Ct.progT c Ct.FU).head s=(s',u):=by
  unfold Ct.progT
  rw [hk,if_neg (by decide),if_neg (by decide),if_neg (by decide),if_pos (by decide)]
  exact hq
 rw [e0]
 exact ⟨tb,rfl,h⟩
section
attribute [local semireducible] Go.E.wpL Go.E.wpS Go.E.X Go.E.XS Go.E.C Go.E.thn Go.E.blk Go.E.fin Go.E.Y Go.E.U Go.E.F Go.E.Ca Go.E.Res Go.E.bl Go.E.rb Go.E.osl Go.E.rsl Go.E.ex Go.E.ce Go.E.pu Go.E.sK Go.E.gK Go.E.bK Go.E.zK Go.E.boxA Go.E.cloA Go.E.codeA clA cdA klA
attribute [local irreducible] Go.E.wpL Go.E.wpS
variable {B w : World} {L : List As}
theorem sbegin_s (ab : Nat) (c : Ct.Call) (s : Ct.St) (h : SH B w (arA ab s::L)) (hk : c.kind=10) (hs : Ct.Rm 60 s) :
  Calls Tryz.prog 37 #[.pointer (some ⟨ab,0,none⟩),.agg [.int .i64 c.kind,.int .i64 c.trie.root,.bool c.trie.readOnly,.int .i64 c.a,.int .i64 c.b,.int .i64 c.n,.int .i64 c.index,.int .u64 ((c.hash : Nat) : Int),.int .u64 ((c.mask : Nat) : Int),.string c.key,.int .u64 ((c.value : Nat) : Int),.int .u64 ((c.expect : Nat) : Int),.int .i64 c.policy,.bool c.only,.bool c.walk.started,.slice none 0 0,.slice none 0 0,.int .i64 c.answer.err,.bool c.answer.found,.int .u64 ((c.answer.value : Nat) : Int),.string c.answer.key,.int .i64 c.answer.count,.int .i64 c.answer.ref,.int .i64 c.answer.trie.root,.bool c.answer.trie.readOnly].toArray] w fun e w'=>∃ tb,e=.returned (.pointer (some ⟨tb,0,none⟩))∧SH B w' (taskA (arSto ab) 99999999 tb ((Ct.progT c Ct.FU).head s).2 0::(arSto ab).a ((Ct.progT c Ct.FU).head s).1::L):=by
 refine bgn (args:=[_,_]) Tryz.func37 rfl Tryz.ntmps37 rfl ?_
 refine sq<|rg<|sf (bx h rfl rfl)<|?_
 rintro _ w ⟨b1,rfl,h⟩
 refine st (sg rfl)<|xe<|nx<|sq<|sq<|rg<|st (fa fo_45_0 rfl)<|st (ld one_3 rfl (h.c a0 rfl))<|xe<|nx<|bk<|sq<|rg<|st (bi rfl rfl rfl)<|st (sg rfl)<|xe<|nx<|cf rfl (beq_eq_false_iff_ne.2 (by omega))<|sq<|rg<|st (bi rfl rfl rfl)<|st (sg rfl)<|xe<|nx<|cf rfl (beq_eq_false_iff_ne.2 (by omega))<|sq<|rg<|st (bi rfl rfl rfl)<|st (sg rfl)<|xe<|nx<|ct rfl (beq_iff_eq.2 (by omega))<|sq<|rg<|st (mv rfl)<|st (mi un_25 rfl rfl)<|st (fa fo_45_1 rfl)<|st (ldr (cs:=[.int .i64 c.trie.root,.bool c.trie.readOnly]) rfl (rows_of (h.b a0) 1 rfl) row_35)<|cl (ca en_29 rfl) ((sx_snap ab c s (h.fr (.c r1 .n)) hk hs).mono ?_)
 rintro _ w ⟨tkb,rfl,h⟩
 refine ⟨_,rfl,?_⟩
 refine st (sg rfl)<|xe<|nx<|rt<|bt<|tr<|?_
 refine rr (res1 Tryz.results37 rfl)<|⟨tkb,rfl,(h.fr (.c r2 .n)).drop⟩
end
section
attribute [local semireducible] Go.E.wpL Go.E.wpS Go.E.X Go.E.XS Go.E.C Go.E.thn Go.E.blk Go.E.fin Go.E.Y Go.E.U Go.E.F Go.E.Ca Go.E.Res Go.E.bl Go.E.rb Go.E.osl Go.E.rsl Go.E.ex Go.E.ce Go.E.pu Go.E.sK Go.E.gK Go.E.bK Go.E.zK Go.E.boxA Go.E.cloA Go.E.codeA clA cdA klA
attribute [local irreducible] Go.E.wpL Go.E.wpS
variable {B w : World} {L : List As}
theorem sbegin_f (ab : Nat) (c : Ct.Call) (s : Ct.St) (h : SH B w (arA ab s::L)) (hk : c.kind=11) (hs : Ct.Rm 60 s) :
  Calls Tryz.prog 37 #[.pointer (some ⟨ab,0,none⟩),.agg [.int .i64 c.kind,.int .i64 c.trie.root,.bool c.trie.readOnly,.int .i64 c.a,.int .i64 c.b,.int .i64 c.n,.int .i64 c.index,.int .u64 ((c.hash : Nat) : Int),.int .u64 ((c.mask : Nat) : Int),.string c.key,.int .u64 ((c.value : Nat) : Int),.int .u64 ((c.expect : Nat) : Int),.int .i64 c.policy,.bool c.only,.bool c.walk.started,.slice none 0 0,.slice none 0 0,.int .i64 c.answer.err,.bool c.answer.found,.int .u64 ((c.answer.value : Nat) : Int),.string c.answer.key,.int .i64 c.answer.count,.int .i64 c.answer.ref,.int .i64 c.answer.trie.root,.bool c.answer.trie.readOnly].toArray] w fun e w'=>∃ tb,e=.returned (.pointer (some ⟨tb,0,none⟩))∧SH B w' (taskA (arSto ab) 99999999 tb ((Ct.progT c Ct.FU).head s).2 0::(arSto ab).a ((Ct.progT c Ct.FU).head s).1::L):=by
 refine bgn (args:=[_,_]) Tryz.func37 rfl Tryz.ntmps37 rfl ?_
 refine sq<|rg<|sf (bx h rfl rfl)<|?_
 rintro _ w ⟨b1,rfl,h⟩
 refine st (sg rfl)<|xe<|nx<|sq<|sq<|rg<|st (fa fo_45_0 rfl)<|st (ld one_3 rfl (h.c a0 rfl))<|xe<|nx<|bk<|sq<|rg<|st (bi rfl rfl rfl)<|st (sg rfl)<|xe<|nx<|cf rfl (beq_eq_false_iff_ne.2 (by omega))<|sq<|rg<|st (bi rfl rfl rfl)<|st (sg rfl)<|xe<|nx<|cf rfl (beq_eq_false_iff_ne.2 (by omega))<|sq<|rg<|st (bi rfl rfl rfl)<|st (sg rfl)<|xe<|nx<|cf rfl (beq_eq_false_iff_ne.2 (by omega))<|sq<|rg<|st (bi rfl rfl rfl)<|st (sg rfl)<|xe<|nx<|ct rfl (beq_iff_eq.2 (by omega))<|sq<|rg<|st (mv rfl)<|st (mi un_25 rfl rfl)<|st (fa fo_45_1 rfl)<|st (ldr (cs:=[.int .i64 c.trie.root,.bool c.trie.readOnly]) rfl (rows_of (h.b a0) 1 rfl) row_35)<|cl (ca en_77 rfl) ((sx_freeze ab c s (h.fr (.c r1 .n)) hk hs).mono ?_)
 rintro _ w ⟨tkb,rfl,h⟩
 refine ⟨_,rfl,?_⟩
 refine st (sg rfl)<|xe<|nx<|rt<|bt<|tr<|?_
 refine rr (res1 Tryz.results37 rfl)<|⟨tkb,rfl,(h.fr (.c r2 .n)).drop⟩
end
variable {B w : World} {L : List As}
theorem skind_t  (h : SH B w (L)) :
  Calls Tryz.prog 36 #[.bool true] w fun e w'=>e=.returned (.int .i64 11)∧SH B w' L:=by
 refine bn0 Tryz.func36 Tryz.ntmps36 h fun w h=>?_
 exact rz ⟨rfl,h⟩
theorem skind_f  (h : SH B w (L)) :
  Calls Tryz.prog 36 #[.bool false] w fun e w'=>e=.returned (.int .i64 10)∧SH B w' L:=by
 refine bn0 Tryz.func36 Tryz.ntmps36 h fun w h=>?_
 exact rz ⟨rfl,h⟩
theorem anew_any  (h : SH B w (L)) :
  Calls Tryz.prog 76 #[] w fun e w'=>∃ ab,e=.returned (.pointer (some ⟨ab,0,none⟩))∧SH B w' (arA ab {}::L):=by
 refine bn0 Tryz.func76 Tryz.ntmps76 h fun w h=>?_
 refine jX h fun b1 w h=>?_
 refine rz ?_
 have h:=h
 have h:=SH.nil 77 14 (SH.nil 36 1 (SH.nilNs h))
 exact ⟨b1,rfl,SH.ai (b:=b1) (s:={}) ⟨none,0,none,0,[]⟩ rfl h.to⟩
theorem fw_freeze (ab : Nat) (h : SH B w (arA ab (Ct.createS {}).1::L)) : Calls Tryz.prog 77 #[(arSto ab).v,.agg (trieC Ct.fwT).toArray] w fun e w'=>∃ tb,e=.returned (.pointer (some ⟨tb,0,none⟩))∧SH B w' (taskA (arSto ab) 1000 tb (Ct.fwP 0).2 0::(arSto ab).a (Ct.fwP 0).1::L):=by
 refine (p_freeze_any (arSto ab) 1000 Ct.fwT (Ct.createS {}).1 (toSto h) Ct.fw0_rm).mono ?_
 rintro e w' ⟨tb,s',u,hq,rfl,h⟩
 have e0 : Ct.fwP 0=(s',u):=hq
 rw [e0]
 exact ⟨tb,rfl,h⟩
theorem fw_run (ab tb : Nat) (h : SH B w (taskA (arSto ab) 1000 tb (Ct.fwP 0).2 0::(arSto ab).a (Ct.fwP 0).1::L)) : Calls Tryz.prog 20 #[.pointer (some ⟨tb,0,none⟩),.int .i64 20] w fun e w'=>e=.returned (.int .i64 9)∧SH B w' (taskA (arSto ab) 991 tb (Ct.fwP 9).2 9::arA ab (Ct.fwP 9).1::L):=by
 refine (tRun_any (arSto ab) (arMeth ab) 1000 tb 0 9 20 Ct.fwP h (fun i=>rfl) Ct.fwP_run Ct.fwP_end (by decide) (by decide) (fun i hi=>Ct.fwP_rm i (by omega)) (by decide) (by decide)).mono ?_
 rintro e w' ⟨rfl,h⟩
 exact ⟨rfl,(ofSto (h.fr (.c r1 .n))).fr (.c r1 .n)⟩
theorem aeq_trie (t : Ct.Trie) : aeq (trieC t) (trieC t)=true:=by simp [aeq,veq,trieC]
theorem aeq_fwT : aeq (trieC Ct.fwT) [.int .i64 3,.bool false]=true:=by
 rw [show Ct.fwT={ root:=3 } from rfl]; exact aeq_trie _
section
attribute [local semireducible] Go.E.wpL Go.E.wpS Go.E.X Go.E.XS Go.E.C Go.E.thn Go.E.blk Go.E.fin Go.E.Y Go.E.U Go.E.F Go.E.Ca Go.E.Res Go.E.bl Go.E.rb Go.E.osl Go.E.rsl Go.E.ex Go.E.ce Go.E.pu Go.E.sK Go.E.gK Go.E.bK Go.E.zK Go.E.boxA Go.E.cloA Go.E.codeA clA cdA klA
attribute [local irreducible] Go.E.wpL Go.E.wpS
variable {B w : World} {L : List As}
theorem sawake_any  (h : SH B w (L)) :
  Calls Tryz.prog 31 #[] w fun e w'=>e=.returned (.bool true)∧SH B w' L:=by
 refine bgn (args:=[]) Tryz.func31 rfl Tryz.ntmps31 rfl ?_
 refine sq<|rg<|st (sg rfl)<|xe<|nx<|sq<|rg<|cl (ca en_76 rfl) ((anew_any (h.fr .n)).mono ?_)
 rintro _ w ⟨ab,rfl,h⟩
 refine ⟨_,rfl,?_⟩
 refine st (sg rfl)<|xe<|nx<|sq<|sq<|rg<|st (mv rfl)<|st (bpe un_25 rfl rfl)<|xe<|nx<|cF rfl<|sk<|nx<|sq<|rg<|st (mv rfl)<|st (mi un_25 rfl rfl)<|cl (ca en_38 rfl) ((pcreate_a ab ({} : Ct.St) (h.fr (.c r0 .n)) Ct.fwN_rm).mono ?_)
 rintro _ w ⟨rfl,h⟩
 refine ⟨_,rfl,?_⟩
 refine sf (al h zc_35)<|?_
 rintro _ w ⟨b1,rfl,h⟩
 refine sf (so h rfl rfl rfl sz_35 rfl (.r (.r .d)) u0)<|?_
 rintro _ w h
 refine xe<|nx<|sq<|rg<|st (mv rfl)<|st (mi un_25 rfl rfl)<|st (ldr rfl (rows_all (h.b a0)) row_35)<|cl (ca en_77 rfl) ((fw_freeze ab (h.fr (.c r1 .n))).mono ?_)
 rintro _ w ⟨tb,rfl,h⟩
 refine ⟨_,rfl,?_⟩
 refine st (sg rfl)<|xe<|nx<|sq<|rg<|st (ldr rfl (rows_all (h.b a2)) row_35)<|st (bd [.int .i64 3,.bool false] bd_35 rfl (by kernel_rfl))<|st (be_ eq_35 rfl rfl rfl rfl)<|st (mv rfl)<|gT rfl rfl aeq_fwT<|st (mv rfl)<|gT rfl rfl aeq_fwT<|st (bpn un_51 rfl rfl)<|st (pT rfl aeq_fwT rfl)<|st (mv rfl)<|gT rfl rfl rfl<|st (mv rfl)<|gT rfl rfl rfl<|cl (ca en_20 rfl) ((fw_run ab tb (h.fr (.c r0 (.c r0 .n)))).mono ?_)
 rintro _ w ⟨rfl,h⟩
 refine ⟨_,rfl,?_⟩
 refine gT rfl rfl rfl<|st (bi rfl rfl rfl)<|st (pT rfl rfl rfl)<|st (mv rfl)<|gT rfl rfl rfl<|st (mv rfl)<|gT rfl rfl rfl<|cl (ca en_28 rfl) ((tResult_any (arSto ab) 991 tb 9 (Ct.fwP 9).2 (h.fr (.c r0 .n))).mono ?_)
 rintro _ w ⟨rfl,h⟩
 refine ⟨_,rfl,?_⟩
 refine gT rfl rfl rfl<|st (fd fv_43_1 rfl rfl)<|st (pT rfl rfl rfl)<|st (mv rfl)<|gT rfl rfl Ct.fwP_found<|st (mv rfl)<|gT rfl rfl Ct.fwP_found<|cl (ca en_28 rfl) ((tResult_any (arSto ab) 991 tb 9 (Ct.fwP 9).2 (h.fr (.c r0 .n))).mono ?_)
 rintro _ w ⟨rfl,h⟩
 refine ⟨_,rfl,?_⟩
 refine gT rfl rfl Ct.fwP_found<|st (fda fv_43_6 rfl)<|gT rfl rfl Ct.fwP_found<|st (fd fv_35_1 rfl rfl)<|st (pT rfl Ct.fwP_found rfl)<|st (mv rfl)<|gT rfl rfl Ct.fwP_ro<|st (mv rfl)<|gT rfl rfl Ct.fwP_ro<|cl (ca en_28 rfl) ((tResult_any (arSto ab) 991 tb 9 (Ct.fwP 9).2 (h.fr (.c r0 .n))).mono ?_)
 rintro _ w ⟨rfl,h⟩
 refine ⟨_,rfl,?_⟩
 refine gT rfl rfl Ct.fwP_ro<|st (fda fv_43_6 rfl)<|gT rfl rfl Ct.fwP_ro<|st (fd fv_35_0 rfl rfl)<|gT rfl rfl Ct.fwP_ro<|st (bi rfl rfl rfl)<|st (pT rfl Ct.fwP_ro rfl)<|st (mv rfl)<|gT rfl rfl Ct.fwP_root<|st (mv rfl)<|gT rfl rfl Ct.fwP_root<|cl (ca en_64 rfl) ((anode_any ab (Ct.fwP 9).1 4 (h.fr (.c r1 .n)) (Ct.fwP_rm 9 (by decide)).big (Ct.fwP_fit 9 (by decide))).mono ?_)
 rintro _ w ⟨qn,rfl,h⟩
 refine ⟨_,rfl,?_⟩
 refine gT rfl rfl Ct.fwP_root<|st (fd fv_77_1 rfl rfl)<|gT rfl rfl Ct.fwP_root<|st (bi rfl rfl rfl)<|st (pT rfl Ct.fwP_root rfl)<|st (sg rfl)<|xe<|nx<|rt<|?_
 refine rr (res1 Tryz.results31 rfl)<|⟨by rw [Ct.fwP_gen],h.drop.drop.drop.drop⟩
end
variable {B w : World} {L : List As}
theorem mcreate_any (mb : Nat) (s : Ct.St) (h : SH B w (memA mb s::L)) (hr : s.size≤80000000000) :
  Calls Tryz.prog 39 #[.pointer (some ⟨mb,0,none⟩)] w fun e w'=>∃ pn cn pc cc zs,zs.map Prod.fst=nodesOf (Ct.createS s).1∧e=.returned (.agg (trieC (Ct.createS s).2).toArray)∧SH B w' (bl mb ([.slice pn zs.length cn,.slice pc (Ct.createS s).1.cells.length cc,.int .i64 (((Ct.createS s).1.gen : Nat) : Int),.int .i64 (((Ct.createS s).1.acc : Nat) : Int)]) 64::osl 77 14 (.slice pn zs.length cn) zs.length (zs.flatMap nodeP)::osl 36 1 (.slice pc (Ct.createS s).1.cells.length cc) (Ct.createS s).1.cells.length ((Ct.createS s).1.cells.map (Value.int .i64))::nodesF zs::L):=by
 refine (create_any mb s h (by omega)).mono ?_
 rintro e w' ⟨rfl,h⟩
 obtain ⟨⟨pn,cn,pc,cc,zs⟩,hz0,h⟩:=h.mo
 exact ⟨pn,cn,pc,cc,zs,hz0,rfl,h⟩
theorem rm_create {s : Ct.St} (h : Ct.Rm 60 s) : Ct.Rm 50 (Ct.createS s).1:=(((((h.alloc (Ct.fit_empty _) 0).gen).alloc (Ct.fit_small _ 2 _ 0 0 0) _).cell _).less (by decide) : Ct.Rm 50 (Ct.createS s).1)
attribute [local irreducible] Ct.createS
theorem SnapExact_t (l0 : List Int) (p0 : Option Addr) (c0 : Nat) (l1 : List Int) (p1 : Option Addr) (c1 : Nat) (h : SH B w (rsl 1 (.slice p0 l0.length c0) l0.length (l0.map (Value.int .i64))::rsl 1 (.slice p1 l1.length c1) l1.length (l1.map (Value.int .i64))::L)) :
  Calls Tryz.prog 9 #[.slice p0 l0.length c0,.slice p1 l1.length c1,.bool true] w fun e w'=>e=.returned (.bool true)∧SH B w' L:=by
 refine bn0 Tryz.func9 Tryz.ntmps9 h fun w h=>?_
 refine cl (ca en_11 rfl) ((worlds_any l0 p0 c0 (h.fr (.c r0 .n))).mono ?_)
 rintro _ w ⟨b,mb,mask,g,s,ts,zs,hmk,hW,rfl,h⟩
 have hsz : s.size≤37000000000:=by have:=hW.size; omega
 refine ⟨_,rfl,?_⟩
 refine st (sg rfl)<|xe<|nx<|sq<|?_
 refine go h fun w h=>?_
 have h:=h.fr (.c r0 .n)
 obtain ⟨⟨twp,twc,xwp,xwc⟩,h⟩:=h.wo
 have h : SH B w (bl b ([.pointer (some ⟨mb,0,none⟩),.int .u64 ((mask : Nat) : Int),.slice twp ts.length twc,.slice xwp zs.length xwc]) 32::osl 35 2 (.slice twp ts.length twc) ts.length (ts.flatMap trieC)::osl 53 1 (.slice xwp zs.length xwc) zs.length (zs.flatMap pxC)::exsA mb zs::memA mb s::rsl 1 (.slice p1 l1.length c1) l1.length (l1.map (Value.int .i64))::L):=h
 refine go h fun w h=>?_
 refine j100 (lstart_any _ _ h.to (by omega) (Ct.proper_of hW.gw hW.typ) (nodes_small hW.fit (by omega))) fun ab w h=>?_
 obtain ⟨hl0,hs0⟩:=hW.lkd
 refine go h fun w h=>?_
 refine st (bpe un_25 rfl rfl)<|go h fun w h=>?_
 have h:=h.fr (.c r2 (.c r2 (.c r2 .n)))
 have h : SH B w (wldA b mb mask ts zs::arA ab { s with acc:=0 }::memA mb { s with acc:=0 }::exsA mb zs::rsl 1 (.slice p1 l1.length c1) l1.length (l1.map (Value.int .i64))::L):=SH.wi ⟨twp,twc,xwp,xwc⟩ h
 refine go h fun w h=>?_
 refine cl (ca en_36 rfl) ((skind_t (h.fr .n)).mono ?_)
 rintro _ w ⟨rfl,h⟩
 refine ⟨_,rfl,?_⟩
 refine st (mv rfl)<|?_
 refine go h fun w h=>?_
 refine j100 (new_e _ _ _ h.to) fun tpb w h=>?_
 refine cl (ca en_13 rfl) ((wcall_any b mb tpb mask ts zs l1 11 (h.fr (.c r1 (.c r0 .n))) hW.some hW.five (by decide) (by decide) hW.first).mono ?_)
 rintro _ w ⟨c,hck,hcm,hcky,hct,hcw,rfl,h⟩
 have hcok : Ct.CallOk g c:=hW.callOk (by rw [hck]; decide) (by rw [hck]; decide) hct hcw
 have hcm2 : c.mask<18446744073709551616:=by rw [hcm]; exact hmk
 have hcky2 : c.key.size≤9223372036854775807:=by omega
 have hst:=Ct.start_ready (c:=c) hl0.fit (by unfold Ct.room; omega)
 refine ⟨_,rfl,?_⟩
 refine go h fun w h=>?_
 refine jA h fun b1 w h=>?_
 have h:=h.fr (.c r1 .n)
 obtain ⟨⟨twp,twc,xwp,xwc⟩,h⟩:=h.wo
 have h : SH B w (bl b ([.pointer (some ⟨mb,0,none⟩),.int .u64 ((mask : Nat) : Int),.slice twp ts.length twc,.slice xwp zs.length xwc]) 32::osl 35 2 (.slice twp ts.length twc) ts.length (ts.flatMap trieC)::osl 53 1 (.slice xwp zs.length xwc) zs.length (zs.flatMap pxC)::bl b1 ([.int .i64 c.kind,.int .i64 c.trie.root,.bool c.trie.readOnly,.int .i64 c.a,.int .i64 c.b,.int .i64 c.n,.int .i64 c.index,.int .u64 ((c.hash : Nat) : Int),.int .u64 ((c.mask : Nat) : Int),.string c.key,.int .u64 ((c.value : Nat) : Int),.int .u64 ((c.expect : Nat) : Int),.int .i64 c.policy,.bool c.only,.bool c.walk.started,.slice none 0 0,.slice none 0 0,.int .i64 c.answer.err,.bool c.answer.found,.int .u64 ((c.answer.value : Nat) : Int),.string c.answer.key,.int .i64 c.answer.count,.int .i64 c.answer.ref,.int .i64 c.answer.trie.root,.bool c.answer.trie.readOnly]) 45::tapE tpb l1::arA ab { s with acc:=0 }::memA mb { s with acc:=0 }::exsA mb zs::L):=h
 refine drH [1,3,5,7,9,11,13,17,19,21,23,25,14,26,29,30,32,35] (by kernel_rfl) h (.c r0 (.c r2 .n)) fun w h=>go h fun w h=>?_
 refine cs (ca en_37 rfl) ((sbegin_f ab c { s with acc:=0 } (h.fr (.c r5 .n)) hck ⟨hl0.fit,by unfold Ct.roomMax; omega⟩).mono ?_)
 rintro _ w ⟨tkb,rfl,h⟩
 refine ⟨_,rfl,h.hs (.c r2 (.c r4 .n)),?_⟩
 refine go h fun w h=>?_
 refine s101 (start_any _ _ c _ h.to hst.1 hst.2 (by decide) hcm2 hcky2 hcok.lo hcok.hi) fun xb w h hok=>?_
 refine ff (bu [.pointer (some ⟨tkb,0,none⟩),.pointer (some ⟨xb,0,none⟩)] h Slc.h Ss.h rfl (by kernel_rfl) rfl (by decide) (by decide)) ?_
 rintro _ w ⟨b2,rfl,h⟩
 refine gz h fun w h=>?_
 refine cs (ca en_16 rfl) ((lrun_one ab mb tkb xb b2 99999999 g { s with acc:=0 } c (h.fr (.c r2 (.c r2 (.c r1 (.c r0 .n))))) hl0 (by omega) (by decide) hcok hcm2 hcky2 hok).mono ?_)
 rintro _ w ⟨s1,hf1,hz1,rfl,h⟩
 refine ⟨_,rfl,h.hs (.c r2 (.c r4 .n)),?_⟩
 refine tk (fun W H=>nt rfl)<|xz<|nx<|cF rfl<|sk<|nx<|sq<|?_
 refine go h fun w h=>?_
 have hr1 : Ct.Rm 60 s1 :=⟨hf1,by unfold Ct.roomMax; omega⟩
 have hr2:=rm_create hr1
 refine drT (F:=[bl b ([.pointer (some ⟨mb,0,none⟩),.int .u64 ((mask : Nat) : Int),.slice twp ts.length twc,.slice xwp zs.length xwc]) 32]) (.op 0 false (.op 1 true (.op 2 true (.op 3 true (.op 5 true (.op 6 true (.op 7 true (.op 8 true (.op 4 false (.op 9 false (.op 10 true (.op 11 true (.op 12 true (.op 13 true (.op 15 true (.op 16 true (.op 17 true (.op 18 true (.op 19 true (.op 20 true (.fork 14 21 (.op 21 false (.op 22 false (.op 23 true (.op 24 false .stop)))) (.op 14 false (.op 22 false (.op 23 true (.op 24 false .stop))))))))))))))))))))))))) (by kernel_rfl) h (fun w h=>(hC (h.at_ a2) hN)) fun w h=>go h fun w h=>?_
 refine cs (ca en_31 rfl) ((sawake_any (h.fr .n)).mono ?_)
 rintro _ w ⟨rfl,h⟩
 refine ⟨_,rfl,(hC (h.at_ a2) hN),?_⟩
 refine tk (fun W H=>mv rfl)<|gTs rfl rfl rfl<|tk (fun W H=>mv rfl)<|gTs rfl rfl rfl<|?_
 refine go h fun w h=>?_
 refine tk (fun W H=>mi un_25 rfl rfl)<|go h fun w h=>?_
 refine cs (ca en_38 rfl) ((pcreate_any ab s1 (h.fr (.c r1 .n)) hr1).mono ?_)
 rintro _ w ⟨rfl,h⟩
 refine ⟨_,rfl,(hC (h.at_ a2) hN),?_⟩
 refine gTs rfl rfl rfl<|?_
 refine go h fun w h=>?_
 refine cs (ca en_39 rfl) ((mcreate_any mb s1 (h.fr (.c r1 .n)) (by omega)).mono ?_)
 rintro _ w ⟨pn,cn,pc,cc,zs1,hzs1,rfl,h⟩
 refine ⟨_,rfl,(hC (h.at_ a5) hN),?_⟩
 refine gTs rfl rfl rfl<|?_
 refine go h fun w h=>?_
 refine tk (fun W H=>be_ eq_35 rfl rfl rfl rfl)<|go h fun w h=>?_
 refine gTs rfl rfl (aeq_trie _)<|go h fun w h=>?_
 refine gTs rfl rfl (aeq_trie _)<|go h fun w h=>?_
 refine gTs rfl rfl (aeq_trie _)<|go h fun w h=>?_
 refine gTs rfl rfl (aeq_trie _)<|go h fun w h=>?_
 refine gTs rfl rfl (aeq_trie _)<|go h fun w h=>?_
 refine gTs rfl rfl (aeq_trie _)<|go h fun w h=>?_
 refine gTs rfl rfl (aeq_trie _)<|go h fun w h=>?_
 refine xzT ?_ ?_
 refine gTs rfl rfl (aeq_trie _)<|go h fun w h=>?_
 refine cs (ca en_25 rfl) ((sstate_any ab (Ct.createS s1).1 (h.fr (.c r4 .n)) hr2.big hr2.fit).mono ?_)
 rintro _ w ⟨pnz,cnz,pcz,ccz,ys,hys,rfl,h⟩
 refine ⟨_,rfl,(hC (h.at_ a8) hN),?_⟩
 refine go h fun w h=>?_
 refine gTs rfl rfl (aeq_trie _)<|ef (ldr (cs:=[.slice pn zs1.length cn,.slice pc (Ct.createS s1).1.cells.length cc,.int .i64 (((Ct.createS s1).1.gen : Nat) : Int)]) rfl (rows_of (h.b a4) 0 rfl) Row.h) ((hC (h.at_ a8) hN))<|gTs rfl rfl (aeq_trie _)<|go h fun w h=>?_
 refine s000 (same_any _ _ _ _ _ _ _ _ _ _ _ h.to hys hzs1 hr2.big (nodes_small hr2.fit hr2.big)) fun w h=>?_
 refine tk (fun W H=>pT rfl (aeq_trie _) rfl)<|go h fun w h=>?_
 exact rz ⟨rfl,h.drop.drop.drop.drop.drop.drop.drop.drop.drop.drop.drop⟩
 refine gTs rfl rfl (aeq_trie _)<|ef (ldr (cs:=[.slice pn zs1.length cn,.slice pc (Ct.createS s1).1.cells.length cc,.int .i64 (((Ct.createS s1).1.gen : Nat) : Int)]) rfl (rows_of (h.b a0) 0 rfl) Row.h) ((hC (h.at_ a5) hN))<|gTs rfl rfl (aeq_trie _)<|go h fun w h=>?_
 refine cs (ca en_25 rfl) ((sstate_any ab (Ct.createS s1).1 (h.fr (.c r4 .n)) hr2.big hr2.fit).mono ?_)
 rintro _ w ⟨pnz,cnz,pcz,ccz,ys,hys,rfl,h⟩
 refine ⟨_,rfl,(hC (h.at_ a8) hN),?_⟩
 refine go h fun w h=>?_
 refine gTs rfl rfl (aeq_trie _)<|go h fun w h=>?_
 refine s000 (same_any _ _ _ _ _ _ _ _ _ _ _ h.to hys hzs1 hr2.big (nodes_small hr2.fit hr2.big)) fun w h=>?_
 refine tk (fun W H=>pT rfl (aeq_trie _) rfl)<|go h fun w h=>?_
 exact rz ⟨rfl,h.drop.drop.drop.drop.drop.drop.drop.drop.drop.drop.drop⟩
theorem SnapExact_f (l0 : List Int) (p0 : Option Addr) (c0 : Nat) (l1 : List Int) (p1 : Option Addr) (c1 : Nat) (h : SH B w (rsl 1 (.slice p0 l0.length c0) l0.length (l0.map (Value.int .i64))::rsl 1 (.slice p1 l1.length c1) l1.length (l1.map (Value.int .i64))::L)) :
  Calls Tryz.prog 9 #[.slice p0 l0.length c0,.slice p1 l1.length c1,.bool false] w fun e w'=>e=.returned (.bool true)∧SH B w' L:=by
 refine bn0 Tryz.func9 Tryz.ntmps9 h fun w h=>?_
 refine cl (ca en_11 rfl) ((worlds_any l0 p0 c0 (h.fr (.c r0 .n))).mono ?_)
 rintro _ w ⟨b,mb,mask,g,s,ts,zs,hmk,hW,rfl,h⟩
 have hsz : s.size≤37000000000:=by have:=hW.size; omega
 refine ⟨_,rfl,?_⟩
 refine st (sg rfl)<|xe<|nx<|sq<|?_
 refine go h fun w h=>?_
 have h:=h.fr (.c r0 .n)
 obtain ⟨⟨twp,twc,xwp,xwc⟩,h⟩:=h.wo
 have h : SH B w (bl b ([.pointer (some ⟨mb,0,none⟩),.int .u64 ((mask : Nat) : Int),.slice twp ts.length twc,.slice xwp zs.length xwc]) 32::osl 35 2 (.slice twp ts.length twc) ts.length (ts.flatMap trieC)::osl 53 1 (.slice xwp zs.length xwc) zs.length (zs.flatMap pxC)::exsA mb zs::memA mb s::rsl 1 (.slice p1 l1.length c1) l1.length (l1.map (Value.int .i64))::L):=h
 refine go h fun w h=>?_
 refine j100 (lstart_any _ _ h.to (by omega) (Ct.proper_of hW.gw hW.typ) (nodes_small hW.fit (by omega))) fun ab w h=>?_
 obtain ⟨hl0,hs0⟩:=hW.lkd
 refine go h fun w h=>?_
 refine st (bpe un_25 rfl rfl)<|go h fun w h=>?_
 have h:=h.fr (.c r2 (.c r2 (.c r2 .n)))
 have h : SH B w (wldA b mb mask ts zs::arA ab { s with acc:=0 }::memA mb { s with acc:=0 }::exsA mb zs::rsl 1 (.slice p1 l1.length c1) l1.length (l1.map (Value.int .i64))::L):=SH.wi ⟨twp,twc,xwp,xwc⟩ h
 refine go h fun w h=>?_
 refine cl (ca en_36 rfl) ((skind_f (h.fr .n)).mono ?_)
 rintro _ w ⟨rfl,h⟩
 refine ⟨_,rfl,?_⟩
 refine st (mv rfl)<|?_
 refine go h fun w h=>?_
 refine j100 (new_e _ _ _ h.to) fun tpb w h=>?_
 refine cl (ca en_13 rfl) ((wcall_any b mb tpb mask ts zs l1 10 (h.fr (.c r1 (.c r0 .n))) hW.some hW.five (by decide) (by decide) hW.first).mono ?_)
 rintro _ w ⟨c,hck,hcm,hcky,hct,hcw,rfl,h⟩
 have hcok : Ct.CallOk g c:=hW.callOk (by rw [hck]; decide) (by rw [hck]; decide) hct hcw
 have hcm2 : c.mask<18446744073709551616:=by rw [hcm]; exact hmk
 have hcky2 : c.key.size≤9223372036854775807:=by omega
 have hst:=Ct.start_ready (c:=c) hl0.fit (by unfold Ct.room; omega)
 refine ⟨_,rfl,?_⟩
 refine go h fun w h=>?_
 refine jA h fun b1 w h=>?_
 have h:=h.fr (.c r1 .n)
 obtain ⟨⟨twp,twc,xwp,xwc⟩,h⟩:=h.wo
 have h : SH B w (bl b ([.pointer (some ⟨mb,0,none⟩),.int .u64 ((mask : Nat) : Int),.slice twp ts.length twc,.slice xwp zs.length xwc]) 32::osl 35 2 (.slice twp ts.length twc) ts.length (ts.flatMap trieC)::osl 53 1 (.slice xwp zs.length xwc) zs.length (zs.flatMap pxC)::bl b1 ([.int .i64 c.kind,.int .i64 c.trie.root,.bool c.trie.readOnly,.int .i64 c.a,.int .i64 c.b,.int .i64 c.n,.int .i64 c.index,.int .u64 ((c.hash : Nat) : Int),.int .u64 ((c.mask : Nat) : Int),.string c.key,.int .u64 ((c.value : Nat) : Int),.int .u64 ((c.expect : Nat) : Int),.int .i64 c.policy,.bool c.only,.bool c.walk.started,.slice none 0 0,.slice none 0 0,.int .i64 c.answer.err,.bool c.answer.found,.int .u64 ((c.answer.value : Nat) : Int),.string c.answer.key,.int .i64 c.answer.count,.int .i64 c.answer.ref,.int .i64 c.answer.trie.root,.bool c.answer.trie.readOnly]) 45::tapE tpb l1::arA ab { s with acc:=0 }::memA mb { s with acc:=0 }::exsA mb zs::L):=h
 refine drH [1,3,5,7,9,11,13,17,19,21,23,25,14,26,29,30,32,35] (by kernel_rfl) h (.c r0 (.c r2 .n)) fun w h=>go h fun w h=>?_
 refine cs (ca en_37 rfl) ((sbegin_s ab c { s with acc:=0 } (h.fr (.c r5 .n)) hck ⟨hl0.fit,by unfold Ct.roomMax; omega⟩).mono ?_)
 rintro _ w ⟨tkb,rfl,h⟩
 refine ⟨_,rfl,h.hs (.c r2 (.c r4 .n)),?_⟩
 refine go h fun w h=>?_
 refine s101 (start_any _ _ c _ h.to hst.1 hst.2 (by decide) hcm2 hcky2 hcok.lo hcok.hi) fun xb w h hok=>?_
 refine ff (bu [.pointer (some ⟨tkb,0,none⟩),.pointer (some ⟨xb,0,none⟩)] h Slc.h Ss.h rfl (by kernel_rfl) rfl (by decide) (by decide)) ?_
 rintro _ w ⟨b2,rfl,h⟩
 refine gz h fun w h=>?_
 refine cs (ca en_16 rfl) ((lrun_one ab mb tkb xb b2 99999999 g { s with acc:=0 } c (h.fr (.c r2 (.c r2 (.c r1 (.c r0 .n))))) hl0 (by omega) (by decide) hcok hcm2 hcky2 hok).mono ?_)
 rintro _ w ⟨s1,hf1,hz1,rfl,h⟩
 refine ⟨_,rfl,h.hs (.c r2 (.c r4 .n)),?_⟩
 refine tk (fun W H=>nt rfl)<|xz<|nx<|cF rfl<|sk<|nx<|sq<|?_
 refine go h fun w h=>?_
 have hr1 : Ct.Rm 60 s1 :=⟨hf1,by unfold Ct.roomMax; omega⟩
 have hr2:=rm_create hr1
 refine drT (F:=[bl b ([.pointer (some ⟨mb,0,none⟩),.int .u64 ((mask : Nat) : Int),.slice twp ts.length twc,.slice xwp zs.length xwc]) 32]) (.op 0 false (.op 1 true (.op 2 true (.op 3 true (.op 5 true (.op 6 true (.op 7 true (.op 8 true (.op 4 false (.op 9 false (.op 10 true (.op 11 true (.op 12 true (.op 13 true (.op 15 true (.op 16 true (.op 17 true (.op 18 true (.op 19 true (.op 20 true (.fork 14 21 (.op 21 false (.op 22 false (.op 23 true (.op 24 false .stop)))) (.op 14 false (.op 22 false (.op 23 true (.op 24 false .stop))))))))))))))))))))))))) (by kernel_rfl) h (fun w h=>(hC (h.at_ a2) hN)) fun w h=>go h fun w h=>?_
 refine cs (ca en_31 rfl) ((sawake_any (h.fr .n)).mono ?_)
 rintro _ w ⟨rfl,h⟩
 refine ⟨_,rfl,(hC (h.at_ a2) hN),?_⟩
 refine tk (fun W H=>mv rfl)<|gTs rfl rfl rfl<|tk (fun W H=>mv rfl)<|gTs rfl rfl rfl<|?_
 refine go h fun w h=>?_
 refine tk (fun W H=>mi un_25 rfl rfl)<|go h fun w h=>?_
 refine cs (ca en_38 rfl) ((pcreate_any ab s1 (h.fr (.c r1 .n)) hr1).mono ?_)
 rintro _ w ⟨rfl,h⟩
 refine ⟨_,rfl,(hC (h.at_ a2) hN),?_⟩
 refine gTs rfl rfl rfl<|?_
 refine go h fun w h=>?_
 refine cs (ca en_39 rfl) ((mcreate_any mb s1 (h.fr (.c r1 .n)) (by omega)).mono ?_)
 rintro _ w ⟨pn,cn,pc,cc,zs1,hzs1,rfl,h⟩
 refine ⟨_,rfl,(hC (h.at_ a5) hN),?_⟩
 refine gTs rfl rfl rfl<|?_
 refine go h fun w h=>?_
 refine tk (fun W H=>be_ eq_35 rfl rfl rfl rfl)<|go h fun w h=>?_
 refine gTs rfl rfl (aeq_trie _)<|go h fun w h=>?_
 refine gTs rfl rfl (aeq_trie _)<|go h fun w h=>?_
 refine gTs rfl rfl (aeq_trie _)<|go h fun w h=>?_
 refine gTs rfl rfl (aeq_trie _)<|go h fun w h=>?_
 refine gTs rfl rfl (aeq_trie _)<|go h fun w h=>?_
 refine gTs rfl rfl (aeq_trie _)<|go h fun w h=>?_
 refine gTs rfl rfl (aeq_trie _)<|go h fun w h=>?_
 refine xzT ?_ ?_
 refine gTs rfl rfl (aeq_trie _)<|go h fun w h=>?_
 refine cs (ca en_25 rfl) ((sstate_any ab (Ct.createS s1).1 (h.fr (.c r4 .n)) hr2.big hr2.fit).mono ?_)
 rintro _ w ⟨pnz,cnz,pcz,ccz,ys,hys,rfl,h⟩
 refine ⟨_,rfl,(hC (h.at_ a8) hN),?_⟩
 refine go h fun w h=>?_
 refine gTs rfl rfl (aeq_trie _)<|ef (ldr (cs:=[.slice pn zs1.length cn,.slice pc (Ct.createS s1).1.cells.length cc,.int .i64 (((Ct.createS s1).1.gen : Nat) : Int)]) rfl (rows_of (h.b a4) 0 rfl) Row.h) ((hC (h.at_ a8) hN))<|gTs rfl rfl (aeq_trie _)<|go h fun w h=>?_
 refine s000 (same_any _ _ _ _ _ _ _ _ _ _ _ h.to hys hzs1 hr2.big (nodes_small hr2.fit hr2.big)) fun w h=>?_
 refine tk (fun W H=>pT rfl (aeq_trie _) rfl)<|go h fun w h=>?_
 exact rz ⟨rfl,h.drop.drop.drop.drop.drop.drop.drop.drop.drop.drop.drop⟩
 refine gTs rfl rfl (aeq_trie _)<|ef (ldr (cs:=[.slice pn zs1.length cn,.slice pc (Ct.createS s1).1.cells.length cc,.int .i64 (((Ct.createS s1).1.gen : Nat) : Int)]) rfl (rows_of (h.b a0) 0 rfl) Row.h) ((hC (h.at_ a5) hN))<|gTs rfl rfl (aeq_trie _)<|go h fun w h=>?_
 refine cs (ca en_25 rfl) ((sstate_any ab (Ct.createS s1).1 (h.fr (.c r4 .n)) hr2.big hr2.fit).mono ?_)
 rintro _ w ⟨pnz,cnz,pcz,ccz,ys,hys,rfl,h⟩
 refine ⟨_,rfl,(hC (h.at_ a8) hN),?_⟩
 refine go h fun w h=>?_
 refine gTs rfl rfl (aeq_trie _)<|go h fun w h=>?_
 refine s000 (same_any _ _ _ _ _ _ _ _ _ _ _ h.to hys hzs1 hr2.big (nodes_small hr2.fit hr2.big)) fun w h=>?_
 refine tk (fun W H=>pT rfl (aeq_trie _) rfl)<|go h fun w h=>?_
 exact rz ⟨rfl,h.drop.drop.drop.drop.drop.drop.drop.drop.drop.drop.drop⟩
theorem SnapExact_any (l0 : List Int) (p0 : Option Addr) (c0 : Nat) (l1 : List Int) (p1 : Option Addr) (c1 : Nat) (b : Bool) (h : SH B w (rsl 1 (.slice p0 l0.length c0) l0.length (l0.map (Value.int .i64))::rsl 1 (.slice p1 l1.length c1) l1.length (l1.map (Value.int .i64))::L)) :
  Calls Tryz.prog 9 #[.slice p0 l0.length c0,.slice p1 l1.length c1,.bool b] w fun e w'=>e=.returned (.bool true)∧SH B w' L:=by
 cases b with
 | true=>exact SnapExact_t l0 p0 c0 l1 p1 c1 h
 | false=>exact SnapExact_f l0 p0 c0 l1 p1 c1 h
end Go.Proofs.YtmliojdkmfhmmaaGreat
end
