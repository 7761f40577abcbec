/- Parts of a proof: Ayg, Pt, Ayh, Cw, Lp. -/
import Derived.Test.YtmliojdkmfhmmaaGreatW13
import Derived.Test.YtmliojdkmfhmmaaGreatW14
import Derived.Test.YtmliojdkmfhmmaaGreatW15
import Derived.Test.YtmliojdkmfhmmaaGreatW16
import Derived.Test.YtmliojdkmfhmmaaGreatW12
import Derived.Test.YtmliojdkmfhmmaaGreatW29
import Derived.Test.YtmliojdkmfhmmaaGreatW09
import Derived.Test.YtmliojdkmfhmmaaGreatW30
import Derived.Test.YtmliojdkmfhmmaaGreatW26
set_option linter.unusedVariables false
set_option linter.unusedSimpArgs false
set_option maxRecDepth 100000
set_option maxHeartbeats 4000000
section
namespace Go.Proofs.YtmliojdkmfhmmaaGreat
open Go.E
theorem fo_125_1 : fo Tryz.prog 125 1=some 1:=by kernel_rfl
theorem fo_125_2 : fo Tryz.prog 125 2=some 15:=by kernel_rfl
theorem fo_125_3 : fo Tryz.prog 125 3=some 16:=by kernel_rfl
theorem en_22 : Ents Tryz.prog 22:=enG Tryz.func22 rfl rfl
theorem en_102 : Ents Tryz.prog 102:=enG Tryz.func102 rfl rfl
theorem en_28 : Ents Tryz.prog 28:=enG Tryz.func28 rfl rfl
theorem en_54 : Ents Tryz.prog 54:=enG Tryz.func54 rfl rfl
theorem en_100 : Ents Tryz.prog 100:=enG Tryz.func100 rfl rfl
theorem en_55 : Ents Tryz.prog 55:=enG Tryz.func55 rfl rfl
theorem en_106 : Ents Tryz.prog 106:=enG Tryz.func106 rfl rfl
end Go.Proofs.YtmliojdkmfhmmaaGreat
end
section
namespace Go.Proofs.YtmliojdkmfhmmaaGreat
attribute [local irreducible] Go.E.wpL Go.E.wpS Go.E.X Go.E.XS Go.E.C Go.E.thn Go.E.blk Go.E.fin Go.E.Y Go.E.U Go.E.F Go.E.Ca Go.E.Res Go.E.bl Go.E.rb Go.E.osl Go.E.rsl Go.E.ex Go.E.ce Go.E.pu Go.E.sK Go.E.gK Go.E.bK Go.E.zK Go.E.boxA Go.E.cloA Go.E.codeA clA cdA klA
open Go.RowKit Go.E
variable {B w : World} {L : List As}
theorem tDone_b (S : Sto) (tb : Nat) (c : Cc) (k : Nat) (b : Bool) (h : SH B w (bl tb (taskV S c k b) 125::L)) :
  Calls Tryz.prog 22 #[.pointer (some ⟨tb,0,none⟩)] w fun e w'=>e=.returned (.bool (c.kind==0))∧SH B w' (bl tb (taskV S c k b) 125::L):=by
 refine bn0 Tryz.func22 Tryz.ntmps22 h fun w h=>?_
 exact rz ⟨rfl,h⟩
theorem tSteps_b (S : Sto) (tb : Nat) (c : Cc) (k : Nat) (b : Bool) (h : SH B w (bl tb (taskV S c k b) 125::L)) :
  Calls Tryz.prog 100 #[.pointer (some ⟨tb,0,none⟩)] w fun e w'=>e=.returned (.int .i64 ((k : Nat) : Int))∧SH B w' (bl tb (taskV S c k b) 125::L):=by
 refine bn0 Tryz.func100 Tryz.ntmps100 h fun w h=>?_
 exact rz ⟨rfl,h⟩
theorem tResult_b (S : Sto) (tb : Nat) (c : Cc) (k : Nat) (b : Bool) (h : SH B w (bl tb (taskV S c k b) 125::L)) :
  Calls Tryz.prog 28 #[.pointer (some ⟨tb,0,none⟩)] w fun e w'=>e=.returned (.agg (resW (if (c.kind==0)=true then c.r else {})).toArray)∧SH B w' (bl tb (taskV S c k b) 125::L):=by
 refine bn0 Tryz.func28 Tryz.ntmps28 h fun w h=>?_
 refine jA h fun b1 w h=>?_
 refine j000 (tDone_b S _ c _ _ h.to) fun w h=>?_
 refine qc h (fun hd2 w h=>?_) fun hd2 w h=>?_
 have hd3 : ((c.kind : Int)==0)=false:=(Bool.not_eq_true' _).mp hd2
 have hg4:=ne_of_beq_false hd3
 refine go h fun w h=>?_
 refine rr (resC rfl rfl (h.b a1) Row.h) ?_
 refine ⟨?_,h.to⟩
 rw [hd3]; rfl
 have hd5 : ((c.kind : Int)==0)=true:=(Bool.not_eq_false' _).mp hd2
 have hg6:=eq_of_beq hd5
 refine go h fun w h=>?_
 refine st (ldr (cs:=[.int .i64 c.r.err,.bool c.r.found,.int .u64 ((c.r.value : Nat) : Int),.string c.r.key,.int .i64 c.r.count,.int .i64 c.r.ref,.int .i64 c.r.trie.root,.bool c.r.trie.readOnly]) rfl (rows_of (h.b a0) 7 rfl) Row.h)<|go h fun w h=>?_
 refine rr (resC rfl rfl (h.b a1) Row.h) ?_
 refine ⟨?_,h.to⟩
 rw [hd5]; rfl
theorem tNext_b (S : Sto) (tb : Nat) (c : Cc) (k : Nat) (b : Bool) (h : SH B w (bl tb (taskV S c k b) 125::L)) :
  Calls Tryz.prog 102 #[.pointer (some ⟨tb,0,none⟩)] w fun e w'=>e=.returned (.tuple #[.agg (accV (if (c.kind==0)=true then {} else ⟨c.kind,c.cell,c.old,c.new⟩)).toArray,.bool (!(c.kind==0))])∧SH B w' (bl tb (taskV S c k b) 125::L):=by
 refine bn0 Tryz.func102 Tryz.ntmps102 h fun w h=>?_
 refine jA h fun b1 w h=>?_
 refine j000 (tDone_b S _ c _ _ h.to) fun w h=>?_
 refine qc h (fun hd2 w h=>?_) fun hd2 w h=>?_
 have hg3:=eq_of_beq hd2
 refine go h fun w h=>?_
 refine rr (resCt rfl rfl (h.b a1) Row.h rfl) ?_
 refine ⟨?_,h.to⟩
 rw [hd2]; rfl
 have hg4:=ne_of_beq_false hd2
 refine go h fun w h=>?_
 refine st (ldr (cs:=[.int .i64 c.kind,.int .i64 c.cell,.int .i64 c.old,.int .i64 c.new]) rfl (rows_of (h.b a0) 1 rfl) Row.h)<|go h fun w h=>?_
 refine rr (resCt rfl rfl (h.b a1) Row.h rfl) ?_
 refine ⟨?_,h.to⟩
 rw [hd2]; rfl
theorem tStep_b (S : Sto) (hM : ∀ w,Meth S.t S.x S.ab w) (n tb : Nat) (u : Ct.I Ct.Result) (c : Cc) (k : Nat) (s : Ct.St) (h : SH B w (bl tb (taskV S c k false) 125::cdA S resF (n+1) u c::S.a s::L)) (hs : Ct.Rm 101 s) (hu : u.ended=none) (hd : (c.kind==0)=false) (hk : k≤9000000000000000000) :
  Calls Tryz.prog 54 #[.pointer (some ⟨tb,0,none⟩)] w fun e w'=>∃ s' u' c',u.step s=(s',u')∧e=.returned (.tuple #[])∧SH B w' (bl tb (taskV S c' (k+1) false) 125::cdA S resF n u' c'::S.a s'::L):=by
 refine bn0 Tryz.func54 Tryz.ntmps54 h fun w h=>?_
 refine cl (ca en_22 rfl) ((tDone_b S tb c k false (h.fr (.c r0 .n))).mono ?_)
 rintro _ w ⟨rfl,h⟩
 refine ⟨_,rfl,?_⟩
 refine st (mv rfl)<|gT rfl rfl hd<|st (mv rfl)<|gT rfl rfl hd<|st (nc rfl rfl)<|gT rfl rfl hd<|st (fa fo_125_3 rfl)<|gT rfl rfl hd<|st (ld one_4 rfl (h.c a0 rfl))<|st (pF rfl hd rfl)<|xe<|nx<|cF rfl<|sk<|nx<|sq<|rg<|st (mv rfl)<|st (nc rfl rfl)<|st (fa fo_125_3 rfl)<|?_
 refine sf (so h rfl rfl rfl sz_4 rfl (.s (.s (.s (.s (.s (.s (.s (.s (.s (.s (.s (.s (.s (.s (.s (.s (.r .d))))))))))))))))) u0)<|?_
 rintro _ w h
 refine xe<|nx<|sq<|rg<|st (mv rfl)<|st (nc rfl rfl)<|st (fa fo_125_2 rfl)<|st (ld one_3 rfl (h.c a0 rfl))<|st (bw rfl rfl (wadd (c:=((k+1 : Nat) : Int)) (by omega) (by omega) (by omega)))<|st (nc rfl rfl)<|st (fa fo_125_2 rfl)<|?_
 refine sf (so h rfl rfl rfl sz_3 rfl (.s (.s (.s (.s (.s (.s (.s (.s (.s (.s (.s (.s (.s (.s (.s (.r .d)))))))))))))))) u0)<|?_
 rintro _ w h
 refine xe<|nx<|sq<|?_
 refine go h fun w h=>?_
 refine drG (F:=[bl tb ([S.v,.int .i64 c.kind,.int .i64 c.cell,.int .i64 c.old,.int .i64 c.new,c.ld.val,c.tr.val,.int .i64 c.r.err,.bool c.r.found,.int .u64 ((c.r.value : Nat) : Int),.string c.r.key,.int .i64 c.r.count,.int .i64 c.r.ref,.int .i64 c.r.trie.root,.bool c.r.trie.readOnly,.int .i64 ((k+1 : Nat) : Int),.bool true]) 125]) [(true,[1,3,5,7,9,11,13,15,17,18,21,23]),(false,[24])] (by kernel_rfl) h (fun w h=>(hC (h.at_ a0) hN)) fun w h=>go h fun w h=>?_
 refine tk (fun W H=>ldr (cs:=[.int .i64 c.kind,.int .i64 c.cell,.int .i64 c.old,.int .i64 c.new,c.ld.val,c.tr.val,.int .i64 c.r.err,.bool c.r.found,.int .u64 ((c.r.value : Nat) : Int),.string c.r.key,.int .i64 c.r.count,.int .i64 c.r.ref,.int .i64 c.r.trie.root,.bool c.r.trie.readOnly]) rfl (rows_of (H.b a0) 1 rfl) Row.h)<|go h fun w h=>?_
 refine s310 (followed_any S hM _ u c _ h.to hs hu) fun s1 uz2 c3 hq4 w h=>?_
 refine rn (res0 Tryz.results54)<|go h fun w h=>?_
 refine ⟨s1,uz2,c3,hq4,rfl,h.to⟩
theorem tNew_any (S : Sto) (n : Nat) (th : Fv) (k : Unit→Ct.I Ct.Result) (s : Ct.St) (h : SH B w (clA S resF n 60 unitA k th::S.a s::L)) (hs : Ct.Rm 60 s) :
  Calls Tryz.prog 55 #[S.v,th.val] w fun e w'=>∃ tb s' u,(k ()).head s=(s',u)∧e=.returned (.pointer (some ⟨tb,0,none⟩))∧SH B w' (taskA S n tb u 0::S.a s'::L):=by
 refine bn0 Tryz.func55 Tryz.ntmps55 h fun w h=>?_
 refine jX h fun b1 w h=>?_
 refine cl (ca en_106 rfl) ((taskBegun_any S resF n th k s (h.fr (.c r1 (.c r1 .n))) hs).mono ?_)
 rintro _ w ⟨s2,uz3,c4,hq5,rfl,h⟩
 refine ⟨_,rfl,?_⟩
 refine st (nc rfl rfl)<|st (fa fo_125_1 rfl)<|?_
 refine sf (so h rfl rfl rfl sz_110 (ccL_one _) (.s (.r (.r (.r (.r (.r (.r (.r (.r (.r (.r (.r (.r (.r (.r .d))))))))))))))) u2)<|?_
 rintro _ w h
 refine xe<|nx<|sq<|rg<|st (mv rfl)<|st (sg rfl)<|xe<|nx<|rt<|?_
 refine go h fun w h=>?_
 refine rz ?_
 have h:=(h.fr (.c r2 (.c r0 (.c r0 .n))))
 exact ⟨b1,s2,uz3,hq5,rfl,SH.in_ c4 (SH.is (l:=[bl b1 (taskV S c4 0 false) 125,cdA S resF n uz3 c4]) h)⟩
theorem SH.to {S : Sto} {n tb k : Nat} {u : Ct.I Ct.Result} (h : SH B w (taskA S n tb u k::L)) : ∃ c,SH B w (bl tb (taskV S c k false) 125::cdA S resF n u c::L):=by
 obtain ⟨c,h⟩:=SH.ex (f:=fun c : Cc=>Go.E.se [bl tb (taskV S c k false) 125,cdA S resF n u c]) h
 exact ⟨c,SH.se h⟩
theorem SH.ti {S : Sto} {n tb k : Nat} {u : Ct.I Ct.Result} {c : Cc} (h : SH B w (bl tb (taskV S c k false) 125::cdA S resF n u c::L)) : SH B w (taskA S n tb u k::L) :=
 SH.in_ (f:=fun c : Cc=>Go.E.se [bl tb (taskV S c k false) 125,cdA S resF n u c]) c (SH.is (l:=[_,_]) h)
theorem tDone_any' (S : Sto) (n tb k : Nat) (u : Ct.I Ct.Result) (h : SH B w (taskA S n tb u k::L)) :
  Calls Tryz.prog 22 #[.pointer (some ⟨tb,0,none⟩)] w fun e w'=>e=.returned (.bool u.ended.isSome)∧SH B w' (taskA S n tb u k::L):=by
 obtain ⟨c,h⟩:=SH.to h
 have hc:=cd_facts (h.fr (.c r1 .n))
 refine (tDone_b S tb c k false h).mono ?_
 rintro e w' ⟨rfl,h⟩
 exact ⟨by rw [hc.1],SH.ti h⟩
theorem tSteps_any (S : Sto) (n tb k : Nat) (u : Ct.I Ct.Result) (h : SH B w (taskA S n tb u k::L)) :
  Calls Tryz.prog 100 #[.pointer (some ⟨tb,0,none⟩)] w fun e w'=>e=.returned (.int .i64 ((k : Nat) : Int))∧SH B w' (taskA S n tb u k::L):=by
 obtain ⟨c,h⟩:=SH.to h
 refine (tSteps_b S tb c k false h).mono ?_
 rintro e w' ⟨rfl,h⟩
 exact ⟨rfl,SH.ti h⟩
theorem tResult_any (S : Sto) (n tb k : Nat) (u : Ct.I Ct.Result) (h : SH B w (taskA S n tb u k::L)) :
  Calls Tryz.prog 28 #[.pointer (some ⟨tb,0,none⟩)] w fun e w'=>e=.returned (.agg (resW (u.ended.getD {})).toArray)∧SH B w' (taskA S n tb u k::L):=by
 obtain ⟨c,h⟩:=SH.to h
 have hc:=cd_facts (h.fr (.c r1 .n))
 refine (tResult_b S tb c k false h).mono ?_
 rintro e w' ⟨rfl,h⟩
 refine ⟨?_,SH.ti h⟩
 cases he : u.ended with
 | none=>rw [hc.1,he]; rfl
 | some r=>rw [hc.1,he,hc.2.2.2.2.2 r he]; rfl
theorem acc_end {u : Ct.I Ct.Result} (h : u.ended.isSome=true) : u.acc={}:=by cases u <;> first | rfl | cases h
theorem tNext_any (S : Sto) (n tb k : Nat) (u : Ct.I Ct.Result) (h : SH B w (taskA S n tb u k::L)) :
  Calls Tryz.prog 102 #[.pointer (some ⟨tb,0,none⟩)] w fun e w'=>e=.returned (.tuple #[.agg (accV u.acc).toArray,.bool (!u.ended.isSome)])∧SH B w' (taskA S n tb u k::L):=by
 obtain ⟨c,h⟩:=SH.to h
 have hc:=cd_facts (h.fr (.c r1 .n))
 refine (tNext_b S tb c k false h).mono ?_
 rintro e w' ⟨rfl,h⟩
 refine ⟨?_,SH.ti h⟩
 rw [hc.1,hc.2.1,hc.2.2.1,hc.2.2.2.1,hc.2.2.2.2.1]
 cases he : u.ended.isSome with
 | false=>rfl
 | true=>rw [acc_end he]; rfl
theorem tStep_any (S : Sto) (hM : ∀ w,Meth S.t S.x S.ab w) (n tb k : Nat) (u : Ct.I Ct.Result) (s : Ct.St) (h : SH B w (taskA S (n+1) tb u k::S.a s::L)) (hs : Ct.Rm 101 s) (hu : u.ended=none) (hk : k≤9000000000000000000) :
  Calls Tryz.prog 54 #[.pointer (some ⟨tb,0,none⟩)] w fun e w'=>e=.returned (.tuple #[])∧SH B w' (taskA S n tb (u.step s).2 (k+1)::S.a (u.step s).1::L):=by
 obtain ⟨c,h⟩:=SH.to h
 have hc:=cd_facts (h.fr (.c r1 .n))
 refine (tStep_b S hM n tb u c k s h hs hu (by rw [hc.1,hu]; rfl) hk).mono ?_
 rintro e w' ⟨s',u',c',hq,rfl,h⟩
 rw [hq]
 exact ⟨rfl,SH.ti h⟩
section
attribute [local semireducible] cdA clA klA Go.E.codeA
variable {B w : World} {L : List As}
theorem SH.tLess {S : Sto} {m n tb k : Nat} {u : Ct.I Ct.Result} (hmn : m≤n) (h : SH B w (taskA S n tb u k::L)) : SH B w (taskA S m tb u k::L):=by
 obtain ⟨c,h⟩:=SH.to h
 have h:=(h.fr (.c r1 .n)).imp fun O R=>codeA_less hmn u c _ O R
 exact SH.ti (h.fr (.c r1 .n))
end
end Go.Proofs.YtmliojdkmfhmmaaGreat
end
section
namespace Go.Proofs.YtmliojdkmfhmmaaGreat
open Go.E
theorem en_17 : Ents Tryz.prog 17:=enG Tryz.func17 rfl rfl
theorem en_56 : Ents Tryz.prog 56:=enG Tryz.func56 rfl rfl
theorem en_57 : Ents Tryz.prog 57:=enG Tryz.func57 rfl rfl
theorem en_107 : Ents Tryz.prog 107:=enG Tryz.func107 rfl rfl
theorem en_108 : Ents Tryz.prog 108:=enG Tryz.func108 rfl rfl
theorem en_112 : Ents Tryz.prog 112:=enG Tryz.func112 rfl rfl
end Go.Proofs.YtmliojdkmfhmmaaGreat
end
section
namespace Go.Proofs.YtmliojdkmfhmmaaGreat
attribute [local irreducible] Go.E.wpL Go.E.wpS Go.E.X Go.E.XS Go.E.C Go.E.thn Go.E.blk Go.E.fin Go.E.Y Go.E.U Go.E.F Go.E.Ca Go.E.Res Go.E.bl Go.E.rb Go.E.osl Go.E.rsl Go.E.ex Go.E.ce Go.E.pu Go.E.sK Go.E.gK Go.E.bK Go.E.zK Go.E.boxA Go.E.cloA Go.E.codeA clA cdA klA
open Go.RowKit Go.E
open Go.Ct (qN qA qC qG qT qF)
def ClearedOk (S : Sto) (N n : Nat) : Prop:=∀ (t : Ct.Trie) (B w : World) (L : List As) (s : Ct.St),SH B w (S.a s::L)→Ct.Rm 30 s →
 Calls Tryz.prog 57 #[.agg [S.v,.int .i64 t.root,.bool t.readOnly].toArray] w fun e w'=>CP S resF n B (Ct.clearT t N) s L e w'
variable {B w : World} {L : List As}
theorem p_clr3_any (S : Sto) (N n : Nat) (hrec : ∀ j,j≤n→ClearedOk S N j) (cb0 : Nat) (t : Ct.Trie) {m : Nat} (hm : m≤n) (ok : Bool) (s : Ct.St) (h : SH B w (rb cb0 ([S.v,.int .i64 t.root,.bool t.readOnly]) 103::S.a s::L)) (hs : Ct.Rm 60 s) :
  Calls Tryz.prog 112 #[.bool ok,.pointer (some ⟨cb0,0,none⟩)] w fun e w'=>CP S resF m B ((fun ok_b=>bif !ok_b then Ct.clearT t N else .ret { found:=true }) ok) s L e w':=by
 refine bn0 Tryz.func112 Tryz.ntmps112 h fun w h=>?_
 refine jA h fun b1 w h=>?_
 refine qc h (fun hd2 w h=>?_) fun hd2 w h=>?_
 have hd3 : ok=false:=(Bool.not_eq_true' _).mp hd2
 refine go h fun w h=>?_
 refine j310 (hrec m hm t _ _ _ s h.to (hs.less (by decide))) fun s4 t5 c6 hq7 w h=>?_
 refine rr (resC rfl rfl (h.b a2) Row.h) ?_
 exact cpI (qT hd2 (hq7)) h.to
 have hd8 : ok=true:=(Bool.not_eq_false' _).mp hd2
 refine go h fun w h=>?_
 refine j000 (tDone_any ({ found:=true } : Ct.Result) h.to) fun w h=>?_
 refine rr (resC rfl rfl (h.b a0) Row.h) ?_
 have h:=kD (S:=S) (n:=m) (r:=({ found:=true } : Ct.Result)) h
 exact cpI (qF hd2 rfl) h.to
theorem p_clr2_any (S : Sto) (N n : Nat) (hrec : ∀ j,j≤n→ClearedOk S N j) (cb0 cb1 : Nat) (t : Ct.Trie) (r : Int) {m : Nat} (hm : m≤n) (x : Int) (s : Ct.St) (h : SH B w (rb cb0 ([S.v,.int .i64 t.root,.bool t.readOnly]) 103::rb cb1 ([.int .i64 r]) 36::S.a s::L)) (hs : Ct.Rm 60 s) :
  Calls Tryz.prog 108 #[.int .i64 x,.pointer (some ⟨cb0,0,none⟩),.pointer (some ⟨cb1,0,none⟩)] w fun e w'=>CP S resF m B ((fun m0_b=>.alloc { kind:=3 } 0 fun c_b=>.gen fun g_b=>.alloc { kind:=2,gen:=g_b } c_b fun i_b=>Ct.replaceT t r m0_b i_b fun ok_b=>bif !ok_b then Ct.clearT t N else .ret { found:=true }) x) s L e w':=by
 refine bn0 Tryz.func108 Tryz.ntmps108 h fun w h=>?_
 refine jA h fun b1 w h=>?_
 refine drH [1,3,7,9,4,10,12] (by kernel_rfl) h (.c r1 .n) fun w h=>go h fun w h=>?_
 refine s000 (nEmpty_any  h.to) fun w h=>?_
 refine cs (ci (S.sA h a3) rfl rfl) ((salloc_any S s ({ kind:=3 } : Ct.Node) {} 0 (SH.nilN ({ kind:=3 } : Ct.Node) rfl rfl h.to) hs (Ct.fit_empty _)).mono ?_)
 rintro _ w ⟨rfl,h⟩
 have hs:=hs.alloc (Ct.fit_empty _) 0
 refine ⟨_,rfl,h.hs (.c r2 .n),?_⟩
 refine go h fun w h=>?_
 refine cl (ci (S.sG h a0) rfl rfl) ((snewGen_any S (s.alloc ({ kind:=3 } : Ct.Node) 0).1 h.to hs).mono ?_)
 rintro _ w ⟨rfl,h⟩
 have hs:=hs.gen
 refine ⟨_,rfl,?_⟩
 refine go h fun w h=>?_
 refine drH [1,3,5,9,11,13,6,14,16] (by kernel_rfl) h (.c r2 .n) fun w h=>go h fun w h=>?_
 refine s000 (nInner_any _ h.to) fun w h=>?_
 refine cs (ci (S.sA h a0) rfl rfl) ((salloc_any S (s.alloc ({ kind:=3 } : Ct.Node) 0).1.newGen.1 ({ kind:=2,gen:=(s.alloc ({ kind:=3 } : Ct.Node) 0).1.newGen.2 } : Ct.Node) {} (s.alloc ({ kind:=3 } : Ct.Node) 0).2 (SH.nilN ({ kind:=2,gen:=(s.alloc ({ kind:=3 } : Ct.Node) 0).1.newGen.2 } : Ct.Node) rfl rfl h.to) hs (Ct.fit_small _ 2 (s.alloc ({ kind:=3 } : Ct.Node) 0).1.newGen.2 0 0 0)).mono ?_)
 rintro _ w ⟨rfl,h⟩
 have hs:=hs.alloc (Ct.fit_small _ 2 (s.alloc ({ kind:=3 } : Ct.Node) 0).1.newGen.2 0 0 0) (s.alloc ({ kind:=3 } : Ct.Node) 0).2
 refine ⟨_,rfl,h.hs (.c r2 .n),?_⟩
 refine go h fun w h=>?_
 have h:=h.rbd a2
 have h:=h.fr (.c r0 .n)
 have h:=mkk (j:=60) (S:=S) (F:=resF) (n:=m) (args:=boolA) (k:=(fun ok_b=>bif !ok_b then Ct.clearT t N else .ret { found:=true })) (v:=(.fn 112 [] [.pointer (some ⟨cb0,0,none⟩)])) [rb cb0 ([S.v,.int .i64 t.root,.bool t.readOnly]) 103] h fun m' hm' B' w' L' s' x' h' hs'=>cvI en_112 (p_clr3_any S N m (fun j hj=>hrec j (Nat.le_trans hj hm)) cb0 t (Nat.le_of_lt hm') x' s' h' (hs'.less (by decide)))
 refine cl (ca en_111 rfl) ((p_replace_any S resF t r x ((s.alloc ({ kind:=3 } : Ct.Node) 0).1.newGen.1.alloc ({ kind:=2,gen:=(s.alloc ({ kind:=3 } : Ct.Node) 0).1.newGen.2 } : Ct.Node) (s.alloc ({ kind:=3 } : Ct.Node) 0).2).2 (.fn 112 [] [.pointer (some ⟨cb0,0,none⟩)]) (fun ok_b=>bif !ok_b then Ct.clearT t N else .ret { found:=true }) m ((s.alloc ({ kind:=3 } : Ct.Node) 0).1.newGen.1.alloc ({ kind:=2,gen:=(s.alloc ({ kind:=3 } : Ct.Node) 0).1.newGen.2 } : Ct.Node) (s.alloc ({ kind:=3 } : Ct.Node) 0).2).1 (h.fr (.c r0 (.c r0 .n))) (hs.less (by decide))).mono ?_)
 rintro _ w ⟨s2,t3,c4,hq5,rfl,h⟩
 refine ⟨_,rfl,?_⟩
 refine sf (so h rfl rfl rfl sz_110 (ccL_one _) (.r (.r (.r (.r (.r (.r (.r (.r (.r (.r (.r (.r (.r (.r .d)))))))))))))) u2)<|?_
 rintro _ w h
 refine xe<|nx<|rt<|?_
 refine go h fun w h=>?_
 refine rr (resC rfl rfl (h.b a2) Row.h) ?_
 exact cpI (qA (qG (qA (hq5)))) h.to
theorem p_clr1_any (S : Sto) (N n : Nat) (hrec : ∀ j,j≤n→ClearedOk S N j) (cb0 : Nat) (t : Ct.Trie) {m : Nat} (hm : m≤n) (x : Int) (s : Ct.St) (h : SH B w (rb cb0 ([S.v,.int .i64 t.root,.bool t.readOnly]) 103::S.a s::L)) (hs : Ct.Rm 60 s) :
  Calls Tryz.prog 107 #[.int .i64 x,.pointer (some ⟨cb0,0,none⟩)] w fun e w'=>CP S resF m B ((fun r_b=>Ct.readT t r_b fun m0_b=>.alloc { kind:=3 } 0 fun c_b=>.gen fun g_b=>.alloc { kind:=2,gen:=g_b } c_b fun i_b=>Ct.replaceT t r_b m0_b i_b fun ok_b=>bif !ok_b then Ct.clearT t N else .ret { found:=true }) x) s L e w':=by
 refine bn0 Tryz.func107 Tryz.ntmps107 h fun w h=>?_
 refine jX h fun b1 w h=>?_
 refine jA h fun b2 w h=>?_
 have h:=SH.rbz (h.fr (.c r1 .n))
 refine go h fun w h=>?_
 have h:=h.rbd a0
 have h:=h.rbd a3
 have h:=h.fr (.c r0 (.c r0 .n))
 have h:=mkk (j:=60) (S:=S) (F:=resF) (n:=m) (args:=intA) (k:=(fun m0_b=>.alloc { kind:=3 } 0 fun c_b=>.gen fun g_b=>.alloc { kind:=2,gen:=g_b } c_b fun i_b=>Ct.replaceT t x m0_b i_b fun ok_b=>bif !ok_b then Ct.clearT t N else .ret { found:=true })) (v:=(.fn 108 [] [.pointer (some ⟨cb0,0,none⟩),.pointer (some ⟨b1,0,none⟩)])) [rb cb0 ([S.v,.int .i64 t.root,.bool t.readOnly]) 103,rb b1 ([.int .i64 x]) 36] h fun m' hm' B' w' L' s' x' h' hs'=>cvI en_108 (p_clr2_any S N m (fun j hj=>hrec j (Nat.le_trans hj hm)) cb0 b1 t x (Nat.le_of_lt hm') x' s' h' (hs'.less (by decide)))
 refine cl (ca en_69 rfl) ((p_read_any S resF t x (.fn 108 [] [.pointer (some ⟨cb0,0,none⟩),.pointer (some ⟨b1,0,none⟩)]) (fun m0_b=>.alloc { kind:=3 } 0 fun c_b=>.gen fun g_b=>.alloc { kind:=2,gen:=g_b } c_b fun i_b=>Ct.replaceT t x m0_b i_b fun ok_b=>bif !ok_b then Ct.clearT t N else .ret { found:=true }) m s (h.fr (.c r0 (.c r3 .n))) (hs.less (by decide))).mono ?_)
 rintro _ w ⟨s3,t4,c5,hq6,rfl,h⟩
 refine ⟨_,rfl,?_⟩
 refine sf (so h rfl rfl rfl sz_110 (ccL_one _) (.r (.r (.r (.r (.r (.r (.r (.r (.r (.r (.r (.r (.r (.r .d)))))))))))))) u3)<|?_
 rintro _ w h
 refine xe<|nx<|rt<|?_
 refine go h fun w h=>?_
 refine rr (resC rfl rfl (h.b a3) Row.h) ?_
 exact cpI (hq6) h.to
theorem p_cleared_step (S : Sto) (N n : Nat) (hrec : ∀ j,j<n→ClearedOk S N j) (t : Ct.Trie) (s : Ct.St) (h : SH B w (S.a s::L)) (hs : Ct.Rm 30 s) :
  Calls Tryz.prog 57 #[.agg [S.v,.int .i64 t.root,.bool t.readOnly].toArray] w fun e w'=>CP S resF n B (Ct.clearT t (N+1)) s L e w':=by
 refine bn0 Tryz.func57 Tryz.ntmps57 h fun w h=>?_
 refine jX h fun b1 w h=>?_
 refine jA h fun b2 w h=>?_
 have h:=SH.rbz (h.fr (.c r1 .n))
 refine go h fun w h=>?_
 have h:=h.rbd a0
 have h:=h.fr (.c r0 .n)
 have h:=mkk (j:=60) (S:=S) (F:=resF) (n:=n) (args:=intA) (k:=(fun r_b=>Ct.readT t r_b fun m0_b=>.alloc { kind:=3 } 0 fun c_b=>.gen fun g_b=>.alloc { kind:=2,gen:=g_b } c_b fun i_b=>Ct.replaceT t r_b m0_b i_b fun ok_b=>bif !ok_b then Ct.clearT t N else .ret { found:=true })) (v:=(.fn 107 [] [.pointer (some ⟨b1,0,none⟩)])) [rb b1 ([S.v,.int .i64 t.root,.bool t.readOnly]) 103] h fun m' hm' B' w' L' s' x' h' hs'=>cvI en_107 (p_clr1_any S N m' (fun j hj=>hrec j (Nat.lt_of_le_of_lt hj hm')) b1 t (Nat.le_refl _) x' s' h' (hs'.less (by decide)))
 refine cl (ca en_93 rfl) ((p_help_any S resF t (.fn 107 [] [.pointer (some ⟨b1,0,none⟩)]) (fun r_b=>Ct.readT t r_b fun m0_b=>.alloc { kind:=3 } 0 fun c_b=>.gen fun g_b=>.alloc { kind:=2,gen:=g_b } c_b fun i_b=>Ct.replaceT t r_b m0_b i_b fun ok_b=>bif !ok_b then Ct.clearT t N else .ret { found:=true }) n s (h.fr (.c r0 (.c r2 .n))) (hs.less (by decide))).mono ?_)
 rintro _ w ⟨s3,t4,c5,hq6,rfl,h⟩
 refine ⟨_,rfl,?_⟩
 refine sf (so h rfl rfl rfl sz_110 (ccL_one _) (.r (.r (.r (.r (.r (.r (.r (.r (.r (.r (.r (.r (.r (.r .d)))))))))))))) u3)<|?_
 rintro _ w h
 refine xe<|nx<|rt<|?_
 refine go h fun w h=>?_
 refine rr (resC rfl rfl (h.b a3) Row.h) ?_
 exact cpI (hq6) h.to
theorem cleared_any (S : Sto) : ∀ (N n : Nat),n≤N→ClearedOk S (N+1) n
 | 0,n,hn=>fun t B w L s h hs=>p_cleared_step S 0 n (fun j hj=>by omega) t s h hs
 | N+1,n,hn=>fun t B w L s h hs=>p_cleared_step S (N+1) n (fun j hj=>cleared_any S N j (by omega)) t s h hs
theorem p_clr0_any (S : Sto) (N n : Nat) (hrec : ∀ j,j≤n→ClearedOk S N j) (cb0 : Nat) (t : Ct.Trie) {m : Nat} (hm : m≤n) (s : Ct.St) (h : SH B w (rb cb0 ([S.v,.int .i64 t.root,.bool t.readOnly]) 103::S.a s::L)) (hs : Ct.Rm 60 s) :
  Calls Tryz.prog 56 #[.pointer (some ⟨cb0,0,none⟩)] w fun e w'=>CP S resF m B ((fun _=>Ct.clearT t N) ()) s L e w':=by
 refine bn0 Tryz.func56 Tryz.ntmps56 h fun w h=>?_
 refine jA h fun b1 w h=>?_
 refine cl (ca en_57 rfl) ((hrec m hm t _ _ _ s (h.fr (.c r2 .n)) (hs.less (by decide))).mono ?_)
 rintro _ w ⟨s2,t3,c4,hq5,rfl,h⟩
 refine ⟨_,rfl,?_⟩
 refine sf (so h rfl rfl rfl sz_110 (ccL_one _) (.r (.r (.r (.r (.r (.r (.r (.r (.r (.r (.r (.r (.r (.r .d)))))))))))))) u2)<|?_
 rintro _ w h
 refine xe<|nx<|rt<|?_
 refine go h fun w h=>?_
 refine rr (resC rfl rfl (h.b a2) Row.h) ?_
 exact cpI (hq5) h.to
theorem p_clear_any (S : Sto) (N : Nat) (t : Ct.Trie) (s : Ct.St) (h : SH B w (S.a s::L)) (hs : Ct.Rm 60 s) :
  Calls Tryz.prog 17 #[S.v,.agg [.int .i64 t.root,.bool t.readOnly].toArray] w fun e w'=>∃ tb s' u,(Ct.clearT t (N+1)).head s=(s',u)∧e=.returned (.pointer (some ⟨tb,0,none⟩))∧SH B w' (taskA S N tb u 0::S.a s'::L):=by
 refine bn0 Tryz.func17 Tryz.ntmps17 h fun w h=>?_
 refine jX h fun b1 w h=>?_
 refine jA h fun b2 w h=>?_
 have h:=SH.rbz (h.fr (.c r0 .n))
 refine go h fun w h=>?_
 have h:=h.rbd a0
 have h:=h.fr (.c r0 .n)
 have h:=mkl (S:=S) (F:=resF) (n:=N) (j:=60) (args:=unitA) (k:=(fun _=>Ct.clearT t (N+1))) (v:=(.fn 56 [] [.pointer (some ⟨b2,0,none⟩)])) [rb b2 ([S.v,.int .i64 t.root,.bool t.readOnly]) 103] h fun B' w' L' s' x' h' hs'=>cvI en_56 (p_clr0_any S (N+1) N (cleared_any S N) b2 t (Nat.le_refl _)   s' h' hs')
 refine cl (ca en_55 rfl) ((tNew_any S N (.fn 56 [] [.pointer (some ⟨b2,0,none⟩)]) (fun _=>Ct.clearT t (N+1)) s (h.fr (.c r0 (.c r2 .n))) (hs.less (by decide))).mono ?_)
 rintro _ w ⟨tb3,s4,uz5,hq6,rfl,h⟩
 refine ⟨_,rfl,?_⟩
 refine st (sg rfl)<|xe<|nx<|rt<|?_
 refine go h fun w h=>?_
 exact rz ⟨tb3,s4,uz5,hq6,rfl,h.to⟩
end Go.Proofs.YtmliojdkmfhmmaaGreat
end
section
namespace Go.Ct
variable {g : Ga}
structure Px where
 tb : Nat:=0
 xb : Nat:=0
 k : Nat:=0
 e : Ex:={}
 u : I Result:=.ret {}
structure Lkd (i : Nat) (g : Ga) (s : St) (ys : List Px) : Prop where
 gw : GW g
 typ : Typ g s
 fit : AllFit s
 ex : ∀ z ∈ ys,z.e.got.length=z.k∧z.k≤i∧∃ u',Er g z.e z.u u'
 size : s.size≤38000000000+200000 * i
theorem Er.same {e : Ex} {u u' : I Result} (h : Er g e u u') : e.done=u.ended.isSome∧(u.ended=none→e.next=u.acc)∧∀ r,u.ended=some r→e.result=r:=by
 obtain ⟨h1,h2⟩:=h.sh.acc
 exact ⟨by rw [h.rest.done,← h2],fun q=>by rw [h.rest.next (by rw [← h2]; exact q),h1],fun r q=>h.rest.res r (by rw [← h2]; exact q)⟩
theorem Lkd.ready {i : Nat} {s : St} {ys : List Px} (h : Lkd i g s ys) (hi : i≤1000) {z : Px} (hz : z ∈ ys) : Ok 60 (repeatX 1 ⟨z.e,s⟩)∧(repeatX 1 ⟨z.e,s⟩).left<FU∧z.e.call.mask<18446744073709551616∧z.e.call.key.size≤9223372036854775807∧7≤z.e.call.kind∧z.e.call.kind≤12:=by
 obtain ⟨h1,h2,u',hE⟩:=h.ex z hz
 have hs:=h.size
 obtain ⟨a,b⟩:=hE.ready h.typ h.fit (by unfold room; omega)
 exact ⟨a,b,hE.mask,hE.key,hE.ok.lo,hE.ok.hi⟩
def Px.next (z : Px) (s : St) : Px:={ z with k:=z.k+1,e:=(stepX (callI z.e.call FU) 1 ⟨z.e,s⟩).e,u:=(z.u.step s).2 }
theorem Lkd.step {i j : Nat} {s : St} {ys : List Px} (h : Lkd i g s ys) (hi : i≤1000) (hj : j<ys.length) (hd : ys[j].e.done=false) (hok : Ok 50 (stepX (callI ys[j].e.call FU) 1 ⟨ys[j].e,s⟩)) :
  ((ys[j].u).step s).1=(stepX (callI ys[j].e.call FU) 1 ⟨ys[j].e,s⟩).s∧∃ g',Lkd (i+1) g' (stepX (callI ys[j].e.call FU) 1 ⟨ys[j].e,s⟩).s (ys.set j (ys[j].next s)):=by
 obtain ⟨h1,h2,u',hE⟩:=h.ex _ (List.getElem_mem hj)
 obtain ⟨g',v,v',e1,k2,w2,t2,f2,E2,l2,b2,b3⟩:=hE.step h.gw h.typ h.fit hd (by unfold most; omega) hok
 have hs:=h.size
 refine ⟨by rw [e1],g',w2,t2,f2,?_,by omega⟩
 intro z m
 rcases List.mem_or_eq_of_mem_set m with m | rfl
 ·obtain ⟨a,b,q,c⟩:=h.ex z m
  exact ⟨a,by omega,q,c.ge h.gw k2⟩
 ·refine ⟨by show (stepX (callI ys[j].e.call FU) 1 ⟨ys[j].e,s⟩).e.got.length=ys[j].k+1; rw [l2,h1],by show ys[j].k+1≤i+1; omega,v',?_⟩
  show Er g' _ ((ys[j].u).step s).2 v'
  rw [e1]; exact E2
theorem Lkd.add {i tb xb : Nat} {s : St} {ys : List Px} {c : Call} (h : Lkd i g s ys) (hs : s.size+1000≤38000000000) (hc : CallOk g c) (hm : c.mask<18446744073709551616) (hk : c.key.size≤9223372036854775807) (hok : Ok 50 (stepX (callI c FU) 0 ⟨{ call:=c },s⟩)) :
  ∃ g' u,(progT c FU).head s=((stepX (callI c FU) 0 ⟨{ call:=c },s⟩).s,u)∧Ge g g'∧(stepX (callI c FU) 0 ⟨{ call:=c },s⟩).s.size≤s.size+120∧Lkd i g' (stepX (callI c FU) 0 ⟨{ call:=c },s⟩).s (ys ++ [{ tb:=tb,xb:=xb,e:=(stepX (callI c FU) 0 ⟨{ call:=c },s⟩).e,u:=u }]):=by
 obtain ⟨g',u,u',h1,h2,h3,h4,h5,h6,h7,h8,h9,h10⟩:=Er.start h.gw h.typ h.fit hc hm hk hok
 refine ⟨g',u,h1,h2,h8,h3,h4,h5,?_,by omega⟩
 intro z m
 rcases List.mem_append.1 m with m | m
 ·obtain ⟨a,b,q,c'⟩:=h.ex z m
  exact ⟨a,b,q,c'.ge h.gw h2⟩
 ·rw [List.mem_singleton.1 m]
  exact ⟨by show (stepX (callI c FU) 0 ⟨{ call:=c },s⟩).e.got.length=0; rw [h7]; rfl,Nat.zero_le _,u',h6⟩
theorem Typ.acc {s : St} (h : Typ g s) (a : Nat) : Typ g { s with acc:=a } :=⟨h.nodes,h.gen,h.len,h.holds,h.dec⟩
theorem Wld.lkd {s : St} {ts : List Trie} {zs : List (Nat × Ex)} (h : Wld 36 g s ts zs) : Lkd 0 g { s with acc:=0 } []∧({ s with acc:=0 } : St).size+500≤37100000000:=by
 have hs:=h.size
 have : ({ s with acc:=0 } : St).size≤s.size:=by unfold St.size; dsimp only; omega
 exact ⟨⟨h.gw,h.typ.acc 0,h.fit,(fun z m=>by cases m),by omega⟩,by omega⟩
end Go.Ct
end
