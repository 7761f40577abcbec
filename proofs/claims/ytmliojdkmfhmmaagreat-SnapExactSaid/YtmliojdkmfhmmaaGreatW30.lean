/- Parts of a proof: Ayg, Pt, Ayh. -/
import Derived.Test.YtmliojdkmfhmmaaGreatW13
import Derived.Test.YtmliojdkmfhmmaaGreatW14
import Derived.Test.YtmliojdkmfhmmaaGreatW16
import Derived.Test.YtmliojdkmfhmmaaGreatW12
import Derived.Test.YtmliojdkmfhmmaaGreatW28
import Derived.Test.YtmliojdkmfhmmaaGreatW09
import Derived.Test.YtmliojdkmfhmmaaGreatW29
set_option linter.unusedVariables false
set_option linter.unusedSimpArgs false
set_option maxRecDepth 100000
set_option maxHeartbeats 4000000
section
namespace Go.Proofs.YtmliojdkmfhmmaaGreat
open Go.E
theorem fo_125_1 : fo Tryz.prog 125 1=some 1:=by kernel_rfl
theorem fo_125_2 : fo Tryz.prog 125 2=some 15:=by kernel_rfl
theorem fo_125_3 : fo Tryz.prog 125 3=some 16:=by kernel_rfl
theorem en_22 : Ents Tryz.prog 22:=enG Tryz.func22 rfl rfl
theorem en_28 : Ents Tryz.prog 28:=enG Tryz.func28 rfl rfl
theorem en_54 : Ents Tryz.prog 54:=enG Tryz.func54 rfl rfl
theorem en_55 : Ents Tryz.prog 55:=enG Tryz.func55 rfl rfl
theorem en_106 : Ents Tryz.prog 106:=enG Tryz.func106 rfl rfl
end Go.Proofs.YtmliojdkmfhmmaaGreat
end
section
namespace Go.Proofs.YtmliojdkmfhmmaaGreat
attribute [local irreducible] Go.E.wpL Go.E.wpS Go.E.X Go.E.XS Go.E.C Go.E.thn Go.E.blk Go.E.fin Go.E.Y Go.E.U Go.E.F Go.E.Ca Go.E.Res Go.E.bl Go.E.rb Go.E.osl Go.E.rsl Go.E.ex Go.E.ce Go.E.pu Go.E.sK Go.E.gK Go.E.bK Go.E.zK Go.E.boxA Go.E.cloA Go.E.codeA clA cdA klA
open Go.RowKit Go.E
variable {B w : World} {L : List As}
theorem tDone_b (S : Sto) (tb : Nat) (c : Cc) (k : Nat) (b : Bool) (h : SH B w (bl tb (taskV S c k b) 125::L)) :
  Calls Tryz.prog 22 #[.pointer (some ⟨tb,0,none⟩)] w fun e w'=>e=.returned (.bool (c.kind==0))∧SH B w' (bl tb (taskV S c k b) 125::L):=by
 refine bn0 Tryz.func22 Tryz.ntmps22 h fun w h=>?_
 exact rz ⟨rfl,h⟩
theorem tSteps_b (S : Sto) (tb : Nat) (c : Cc) (k : Nat) (b : Bool) (h : SH B w (bl tb (taskV S c k b) 125::L)) :
  Calls Tryz.prog 100 #[.pointer (some ⟨tb,0,none⟩)] w fun e w'=>e=.returned (.int .i64 ((k : Nat) : Int))∧SH B w' (bl tb (taskV S c k b) 125::L):=by
 refine bn0 Tryz.func100 Tryz.ntmps100 h fun w h=>?_
 exact rz ⟨rfl,h⟩
theorem tResult_b (S : Sto) (tb : Nat) (c : Cc) (k : Nat) (b : Bool) (h : SH B w (bl tb (taskV S c k b) 125::L)) :
  Calls Tryz.prog 28 #[.pointer (some ⟨tb,0,none⟩)] w fun e w'=>e=.returned (.agg (resW (if (c.kind==0)=true then c.r else {})).toArray)∧SH B w' (bl tb (taskV S c k b) 125::L):=by
 refine bn0 Tryz.func28 Tryz.ntmps28 h fun w h=>?_
 refine jA h fun b1 w h=>?_
 refine j000 (tDone_b S _ c _ _ h.to) fun w h=>?_
 refine qc h (fun hd2 w h=>?_) fun hd2 w h=>?_
 have hd3 : ((c.kind : Int)==0)=false:=(Bool.not_eq_true' _).mp hd2
 have hg4:=ne_of_beq_false hd3
 refine go h fun w h=>?_
 refine rr (resC rfl rfl (h.b a1) Row.h) ?_
 refine ⟨?_,h.to⟩
 rw [hd3]; rfl
 have hd5 : ((c.kind : Int)==0)=true:=(Bool.not_eq_false' _).mp hd2
 have hg6:=eq_of_beq hd5
 refine go h fun w h=>?_
 refine st (ldr (cs:=[.int .i64 c.r.err,.bool c.r.found,.int .u64 ((c.r.value : Nat) : Int),.string c.r.key,.int .i64 c.r.count,.int .i64 c.r.ref,.int .i64 c.r.trie.root,.bool c.r.trie.readOnly]) rfl (rows_of (h.b a0) 7 rfl) Row.h)<|go h fun w h=>?_
 refine rr (resC rfl rfl (h.b a1) Row.h) ?_
 refine ⟨?_,h.to⟩
 rw [hd5]; rfl
theorem tNext_b (S : Sto) (tb : Nat) (c : Cc) (k : Nat) (b : Bool) (h : SH B w (bl tb (taskV S c k b) 125::L)) :
  Calls Tryz.prog 102 #[.pointer (some ⟨tb,0,none⟩)] w fun e w'=>e=.returned (.tuple #[.agg (accV (if (c.kind==0)=true then {} else ⟨c.kind,c.cell,c.old,c.new⟩)).toArray,.bool (!(c.kind==0))])∧SH B w' (bl tb (taskV S c k b) 125::L):=by
 refine bn0 Tryz.func102 Tryz.ntmps102 h fun w h=>?_
 refine jA h fun b1 w h=>?_
 refine j000 (tDone_b S _ c _ _ h.to) fun w h=>?_
 refine qc h (fun hd2 w h=>?_) fun hd2 w h=>?_
 have hg3:=eq_of_beq hd2
 refine go h fun w h=>?_
 refine rr (resCt rfl rfl (h.b a1) Row.h rfl) ?_
 refine ⟨?_,h.to⟩
 rw [hd2]; rfl
 have hg4:=ne_of_beq_false hd2
 refine go h fun w h=>?_
 refine st (ldr (cs:=[.int .i64 c.kind,.int .i64 c.cell,.int .i64 c.old,.int .i64 c.new]) rfl (rows_of (h.b a0) 1 rfl) Row.h)<|go h fun w h=>?_
 refine rr (resCt rfl rfl (h.b a1) Row.h rfl) ?_
 refine ⟨?_,h.to⟩
 rw [hd2]; rfl
theorem tStep_b (S : Sto) (hM : ∀ w,Meth S.t S.x S.ab w) (n tb : Nat) (u : Ct.I Ct.Result) (c : Cc) (k : Nat) (s : Ct.St) (h : SH B w (bl tb (taskV S c k false) 125::cdA S resF (n+1) u c::S.a s::L)) (hs : Ct.Rm 101 s) (hu : u.ended=none) (hd : (c.kind==0)=false) (hk : k≤9000000000000000000) :
  Calls Tryz.prog 54 #[.pointer (some ⟨tb,0,none⟩)] w fun e w'=>∃ s' u' c',u.step s=(s',u')∧e=.returned (.tuple #[])∧SH B w' (bl tb (taskV S c' (k+1) false) 125::cdA S resF n u' c'::S.a s'::L):=by
 refine bn0 Tryz.func54 Tryz.ntmps54 h fun w h=>?_
 refine cl (ca en_22 rfl) ((tDone_b S tb c k false (h.fr (.c r0 .n))).mono ?_)
 rintro _ w ⟨rfl,h⟩
 refine ⟨_,rfl,?_⟩
 refine st (mv rfl)<|gT rfl rfl hd<|st (mv rfl)<|gT rfl rfl hd<|st (nc rfl rfl)<|gT rfl rfl hd<|st (fa fo_125_3 rfl)<|gT rfl rfl hd<|st (ld one_4 rfl (h.c a0 rfl))<|st (pF rfl hd rfl)<|xe<|nx<|cF rfl<|sk<|nx<|sq<|rg<|st (mv rfl)<|st (nc rfl rfl)<|st (fa fo_125_3 rfl)<|?_
 refine sf (so h rfl rfl rfl sz_4 rfl (.s (.s (.s (.s (.s (.s (.s (.s (.s (.s (.s (.s (.s (.s (.s (.s (.r .d))))))))))))))))) u0)<|?_
 rintro _ w h
 refine xe<|nx<|sq<|rg<|st (mv rfl)<|st (nc rfl rfl)<|st (fa fo_125_2 rfl)<|st (ld one_3 rfl (h.c a0 rfl))<|st (bw rfl rfl (wadd (c:=((k+1 : Nat) : Int)) (by omega) (by omega) (by omega)))<|st (nc rfl rfl)<|st (fa fo_125_2 rfl)<|?_
 refine sf (so h rfl rfl rfl sz_3 rfl (.s (.s (.s (.s (.s (.s (.s (.s (.s (.s (.s (.s (.s (.s (.s (.r .d)))))))))))))))) u0)<|?_
 rintro _ w h
 refine xe<|nx<|sq<|?_
 refine go h fun w h=>?_
 refine drG (F:=[bl tb ([S.v,.int .i64 c.kind,.int .i64 c.cell,.int .i64 c.old,.int .i64 c.new,c.ld.val,c.tr.val,.int .i64 c.r.err,.bool c.r.found,.int .u64 ((c.r.value : Nat) : Int),.string c.r.key,.int .i64 c.r.count,.int .i64 c.r.ref,.int .i64 c.r.trie.root,.bool c.r.trie.readOnly,.int .i64 ((k+1 : Nat) : Int),.bool true]) 125]) [(true,[1,3,5,7,9,11,13,15,17,18,21,23]),(false,[24])] (by kernel_rfl) h (fun w h=>(hC (h.at_ a0) hN)) fun w h=>go h fun w h=>?_
 refine tk (fun W H=>ldr (cs:=[.int .i64 c.kind,.int .i64 c.cell,.int .i64 c.old,.int .i64 c.new,c.ld.val,c.tr.val,.int .i64 c.r.err,.bool c.r.found,.int .u64 ((c.r.value : Nat) : Int),.string c.r.key,.int .i64 c.r.count,.int .i64 c.r.ref,.int .i64 c.r.trie.root,.bool c.r.trie.readOnly]) rfl (rows_of (H.b a0) 1 rfl) Row.h)<|go h fun w h=>?_
 refine s310 (followed_any S hM _ u c _ h.to hs hu) fun s1 uz2 c3 hq4 w h=>?_
 refine rn (res0 Tryz.results54)<|go h fun w h=>?_
 refine ⟨s1,uz2,c3,hq4,rfl,h.to⟩
theorem tNew_any (S : Sto) (n : Nat) (th : Fv) (k : Unit→Ct.I Ct.Result) (s : Ct.St) (h : SH B w (clA S resF n 60 unitA k th::S.a s::L)) (hs : Ct.Rm 60 s) :
  Calls Tryz.prog 55 #[S.v,th.val] w fun e w'=>∃ tb s' u,(k ()).head s=(s',u)∧e=.returned (.pointer (some ⟨tb,0,none⟩))∧SH B w' (taskA S n tb u 0::S.a s'::L):=by
 refine bn0 Tryz.func55 Tryz.ntmps55 h fun w h=>?_
 refine jX h fun b1 w h=>?_
 refine cl (ca en_106 rfl) ((taskBegun_any S resF n th k s (h.fr (.c r1 (.c r1 .n))) hs).mono ?_)
 rintro _ w ⟨s2,uz3,c4,hq5,rfl,h⟩
 refine ⟨_,rfl,?_⟩
 refine st (nc rfl rfl)<|st (fa fo_125_1 rfl)<|?_
 refine sf (so h rfl rfl rfl sz_110 (ccL_one _) (.s (.r (.r (.r (.r (.r (.r (.r (.r (.r (.r (.r (.r (.r (.r .d))))))))))))))) u2)<|?_
 rintro _ w h
 refine xe<|nx<|sq<|rg<|st (mv rfl)<|st (sg rfl)<|xe<|nx<|rt<|?_
 refine go h fun w h=>?_
 refine rz ?_
 have h:=(h.fr (.c r2 (.c r0 (.c r0 .n))))
 exact ⟨b1,s2,uz3,hq5,rfl,SH.in_ c4 (SH.is (l:=[bl b1 (taskV S c4 0 false) 125,cdA S resF n uz3 c4]) h)⟩
theorem SH.to {S : Sto} {n tb k : Nat} {u : Ct.I Ct.Result} (h : SH B w (taskA S n tb u k::L)) : ∃ c,SH B w (bl tb (taskV S c k false) 125::cdA S resF n u c::L):=by
 obtain ⟨c,h⟩:=SH.ex (f:=fun c : Cc=>Go.E.se [bl tb (taskV S c k false) 125,cdA S resF n u c]) h
 exact ⟨c,SH.se h⟩
theorem SH.ti {S : Sto} {n tb k : Nat} {u : Ct.I Ct.Result} {c : Cc} (h : SH B w (bl tb (taskV S c k false) 125::cdA S resF n u c::L)) : SH B w (taskA S n tb u k::L) :=
 SH.in_ (f:=fun c : Cc=>Go.E.se [bl tb (taskV S c k false) 125,cdA S resF n u c]) c (SH.is (l:=[_,_]) h)
theorem tDone_any' (S : Sto) (n tb k : Nat) (u : Ct.I Ct.Result) (h : SH B w (taskA S n tb u k::L)) :
  Calls Tryz.prog 22 #[.pointer (some ⟨tb,0,none⟩)] w fun e w'=>e=.returned (.bool u.ended.isSome)∧SH B w' (taskA S n tb u k::L):=by
 obtain ⟨c,h⟩:=SH.to h
 have hc:=cd_facts (h.fr (.c r1 .n))
 refine (tDone_b S tb c k false h).mono ?_
 rintro e w' ⟨rfl,h⟩
 exact ⟨by rw [hc.1],SH.ti h⟩
theorem tSteps_any (S : Sto) (n tb k : Nat) (u : Ct.I Ct.Result) (h : SH B w (taskA S n tb u k::L)) :
  Calls Tryz.prog 100 #[.pointer (some ⟨tb,0,none⟩)] w fun e w'=>e=.returned (.int .i64 ((k : Nat) : Int))∧SH B w' (taskA S n tb u k::L):=by
 obtain ⟨c,h⟩:=SH.to h
 refine (tSteps_b S tb c k false h).mono ?_
 rintro e w' ⟨rfl,h⟩
 exact ⟨rfl,SH.ti h⟩
theorem tResult_any (S : Sto) (n tb k : Nat) (u : Ct.I Ct.Result) (h : SH B w (taskA S n tb u k::L)) :
  Calls Tryz.prog 28 #[.pointer (some ⟨tb,0,none⟩)] w fun e w'=>e=.returned (.agg (resW (u.ended.getD {})).toArray)∧SH B w' (taskA S n tb u k::L):=by
 obtain ⟨c,h⟩:=SH.to h
 have hc:=cd_facts (h.fr (.c r1 .n))
 refine (tResult_b S tb c k false h).mono ?_
 rintro e w' ⟨rfl,h⟩
 refine ⟨?_,SH.ti h⟩
 cases he : u.ended with
 | none=>rw [hc.1,he]; rfl
 | some r=>rw [hc.1,he,hc.2.2.2.2.2 r he]; rfl
theorem acc_end {u : Ct.I Ct.Result} (h : u.ended.isSome=true) : u.acc={}:=by cases u <;> first | rfl | cases h
theorem tNext_any (S : Sto) (n tb k : Nat) (u : Ct.I Ct.Result) (h : SH B w (taskA S n tb u k::L)) :
  Calls Tryz.prog 102 #[.pointer (some ⟨tb,0,none⟩)] w fun e w'=>e=.returned (.tuple #[.agg (accV u.acc).toArray,.bool (!u.ended.isSome)])∧SH B w' (taskA S n tb u k::L):=by
 obtain ⟨c,h⟩:=SH.to h
 have hc:=cd_facts (h.fr (.c r1 .n))
 refine (tNext_b S tb c k false h).mono ?_
 rintro e w' ⟨rfl,h⟩
 refine ⟨?_,SH.ti h⟩
 rw [hc.1,hc.2.1,hc.2.2.1,hc.2.2.2.1,hc.2.2.2.2.1]
 cases he : u.ended.isSome with
 | false=>rfl
 | true=>rw [acc_end he]; rfl
theorem tStep_any (S : Sto) (hM : ∀ w,Meth S.t S.x S.ab w) (n tb k : Nat) (u : Ct.I Ct.Result) (s : Ct.St) (h : SH B w (taskA S (n+1) tb u k::S.a s::L)) (hs : Ct.Rm 101 s) (hu : u.ended=none) (hk : k≤9000000000000000000) :
  Calls Tryz.prog 54 #[.pointer (some ⟨tb,0,none⟩)] w fun e w'=>e=.returned (.tuple #[])∧SH B w' (taskA S n tb (u.step s).2 (k+1)::S.a (u.step s).1::L):=by
 obtain ⟨c,h⟩:=SH.to h
 have hc:=cd_facts (h.fr (.c r1 .n))
 refine (tStep_b S hM n tb u c k s h hs hu (by rw [hc.1,hu]; rfl) hk).mono ?_
 rintro e w' ⟨s',u',c',hq,rfl,h⟩
 rw [hq]
 exact ⟨rfl,SH.ti h⟩
section
attribute [local semireducible] cdA clA klA Go.E.codeA
variable {B w : World} {L : List As}
theorem SH.tLess {S : Sto} {m n tb k : Nat} {u : Ct.I Ct.Result} (hmn : m≤n) (h : SH B w (taskA S n tb u k::L)) : SH B w (taskA S m tb u k::L):=by
 obtain ⟨c,h⟩:=SH.to h
 have h:=(h.fr (.c r1 .n)).imp fun O R=>codeA_less hmn u c _ O R
 exact SH.ti (h.fr (.c r1 .n))
end
end Go.Proofs.YtmliojdkmfhmmaaGreat
end
section
namespace Go.Proofs.YtmliojdkmfhmmaaGreat
open Go.E
theorem en_77 : Ents Tryz.prog 77:=enG Tryz.func77 rfl rfl
theorem en_129 : Ents Tryz.prog 129:=enG Tryz.func129 rfl rfl
theorem en_130 : Ents Tryz.prog 130:=enG Tryz.func130 rfl rfl
theorem en_132 : Ents Tryz.prog 132:=enG Tryz.func132 rfl rfl
theorem en_29 : Ents Tryz.prog 29:=enG Tryz.func29 rfl rfl
theorem en_66 : Ents Tryz.prog 66:=enG Tryz.func66 rfl rfl
theorem en_68 : Ents Tryz.prog 68:=enG Tryz.func68 rfl rfl
theorem en_70 : Ents Tryz.prog 70:=enG Tryz.func70 rfl rfl
theorem en_73 : Ents Tryz.prog 73:=enG Tryz.func73 rfl rfl
theorem en_121 : Ents Tryz.prog 121:=enG Tryz.func121 rfl rfl
theorem en_71 : Ents Tryz.prog 71:=enG Tryz.func71 rfl rfl
theorem en_131 : Ents Tryz.prog 131:=enG Tryz.func131 rfl rfl
theorem en_122 : Ents Tryz.prog 122:=enG Tryz.func122 rfl rfl
theorem en_123 : Ents Tryz.prog 123:=enG Tryz.func123 rfl rfl
theorem en_124 : Ents Tryz.prog 124:=enG Tryz.func124 rfl rfl
end Go.Proofs.YtmliojdkmfhmmaaGreat
end
