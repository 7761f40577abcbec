/- Parts of a proof: Pk, Ayb. -/
import Derived.Test.YtmliojdkmfhmmaaGreatW27
import Derived.Test.YtmliojdkmfhmmaaGreatW25
import Derived.Defers
import Derived.Recover
import Derived.Lib.Hide
import Derived.KernelRfl
import Derived.WalkKit
import Derived.WalkSpells
import Derived.WalkLawsBesides
import Derived.OwnWalk
import Derived.Deep.MidRow
import Derived.Test.YtmliojdkmfhmmaaGreatW13
import Derived.Test.YtmliojdkmfhmmaaGreatW14
import Derived.Test.YtmliojdkmfhmmaaGreatW16
import Derived.Test.YtmliojdkmfhmmaaGreatW12
set_option linter.unusedVariables false
set_option linter.unusedSimpArgs false
set_option maxRecDepth 100000
set_option maxHeartbeats 4000000
section
namespace Go.Proofs.YtmliojdkmfhmmaaGreat
open Go.RowKit Go.E
variable {B w w' : World} {L : List As} {α β : Type} {S : Sto} {F : β→Cc→As} {n m j : Nat}
theorem with_world {P : Program} {f : FuncId} {args : Array Value} {w W : World} {R : Ending→World→Prop} (h : w=W) (hc : Calls P f args W R) : Calls P f args w R:=h ▸ hc
theorem size_alloc (w : World) (o : Obj) : (w.alloc o).heap.size=w.heap.size+1:=by simp
theorem SH.dropLast2 {a b c d f : As} (h : SH B w ([a,b,c,d,f] ++ L)) : SH B w (a::b::c::L):=((h.fr (.c r3 (.c r3 .n))).drop).drop
def zeroL : List Value:=ccL {}
theorem begunD_idle (p : Addr) (w : World) :
  CallsD Tryz.prog 157 #[.pointer (some p)] .returning w fun e u' w'=>e=.returned (.tuple #[])∧u'=.returning∧w'=w:=by
 refine callsD_of_wpS Tryz.func157 rfl fun c₀ cs hu=>?_
 apply wpS_seq
 apply wpS_region
 simp [wpOpsS,go_sem,recoverD,hu,Tryz.ntmps157,Exit.thenS]
 refine wpS_cond (t:=false) (by simp [Act.eval,Array.replicate]) ?_
 refine wpS_of_wp (wp_skip ?_)
 cases c₀
 simp_all [bodyPostS,results,Tryz.results157]
theorem followedD_idle (p : Addr) (w : World) :
  CallsD Tryz.prog 156 #[.pointer (some p)] .returning w fun e u' w'=>e=.returned (.tuple #[])∧u'=.returning∧w'=w:=by
 refine callsD_of_wpS Tryz.func156 rfl fun c₀ cs hu=>?_
 apply wpS_seq
 apply wpS_region
 simp [wpOpsS,go_sem,recoverD,hu,Tryz.ntmps156,Exit.thenS]
 refine wpS_cond (t:=false) (by simp [Act.eval,Array.replicate]) ?_
 refine wpS_of_wp (wp_skip ?_)
 cases c₀
 simp_all [bodyPostS,results,Tryz.results156]
theorem info_Code : (Tryz.prog.info? 110).map (·.size)=some 14:=by kernel_rfl
theorem calls_fv {f : FuncId} {ff fc : List Value} {args : List Value} {R : Ending→World→Prop} (h : CallsV Tryz.prog (.fn f ff fc) args w R) : Ents Tryz.prog f∧Calls Tryz.prog f (ff ++ args ++ fc).toArray w R:=by
 obtain ⟨f',ff',fc',e,h1,h2⟩:=h
 injection e with e1 e2 e3
 subst e1 e2 e3
 exact ⟨h1,h2⟩
theorem cloA_fn {P : Program} {St : Ct.St→As} {ok : Ct.St→Prop} {cd : Ct.I β→Cc→As} {args : α→List Value} {k : α→Ct.I β} {v : Fv} {s : Ct.St} (h : SH B w (cloA P St ok cd args k v::St s::L)) (hs : ok s) (a : α) : ∃ f ff fc,v=.fn f ff fc:=by
 obtain ⟨f,ff,fc,e,_⟩:=h.useC hs a
 exact ⟨f,ff,fc,e⟩
theorem ccL_all (c : Cc) : (ccL c).toArray.all (·.oneCell')=true:=by rw [List.all_toArray]; exact ccL_one c
theorem endCode {fn : Func} {p : Tmp} {tmps : Array Value} {b : Nat} {c : Cc} {t t' : Ct.I β} {s s' : Ct.St} (hr : fn.results = #[.cell p 110]) (hp : tmps.getD p undef=.pointer (some ⟨b,0,none⟩))
  (hq : t.head s=(s',t')) (h : SH B w (cdA S F n t' c::S.a s'::bl b (ccL c) 110::L)) : ∃ v,(results fn tmps).run Tryz.prog w=.ok v w∧CP S F n B t s L (.returned v) w:=by
 exact ⟨.agg (ccL c).toArray,results_cell_row hr _ _ b 110 _ (0,0) _ hp (h.b a2) Tryz.underlying110 rfl info_Code,cpI hq ((h.fr (.c r2 .n)).drop)⟩
theorem taskBegun_any {β : Type} (S : Sto) (F : β→Cc→As) (n : Nat) (v : Fv) (k : Unit→Ct.I β) (s : Ct.St) (h : SH B w (clA S F n 60 unitA k v::S.a s::L)) (hs : Ct.Rm 60 s) :
  Calls Tryz.prog 106 #[v.val] w fun e w'=>CP S F n B (k ()) s L e w':=by
 obtain ⟨f,ff,fc,rfl⟩:=cloA_fn h hs ()
 have h1 : SH B (w.alloc (.cells zeroL.toArray 110)) (bl w.heap.size zeroL 110::_):=h.alloc
 obtain ⟨W0,hW0⟩ : ∃ W,(w.alloc (.cells zeroL.toArray 110))=W :=⟨_,rfl⟩
 rw [hW0] at h1
 have HW:=Lib.hid hW0
 have HC:=Lib.hid (calls_fv (callk (h1.fr (.c r1 (.c r1 .n))) hs ()))
 have hmf : ∀ (fn : Fn) (first cap : Array Value) (w : World),(Instr.makeFunc fn first cap).run Tryz.prog w=.ok (.func fn first cap) w:=fun _ _ _ _=>rfl
 have hnil : ∀ (fn : Fn) (first cap : Array Value) (w : World),(binOp BinOp.eql 112 (.func fn first cap) .nilFunc).run Tryz.prog w=.ok (.bool false) w:=fun _ _ _ _=>by kernel_rfl
 have hent:=HC.out.1
 unfold Ents at hent
 clear h h1 hW0
 unfold Fv.val
 go_enter_defers Tryz.func106,Tryz.ntmps106
 go_wp2_with fail
 refine (with_world HW.out (by simpa [unitA] using HC.out.2)).mono ?_
 rintro e w2 ⟨s2,t2,c,hq,rfl,h2⟩
 have H2:=Lib.hid h2
 clear h2
 go_wp2_with (refine wpList_store_row rfl 110 (.tmp 2) (.tmp 8) rfl w.heap.size (ccL c).toArray rfl rfl 110 zeroL.toArray (H2.out.b a2) info_Code rfl (ccL_all c) ?_)
 refine leaves_cons (f:=157) (args:=#[.pointer (some ⟨w.heap.size,0,none⟩)]) (by simp) (by simp [go_sem]) ?_
 refine (begunD_idle ⟨w.heap.size,0,none⟩ _).mono ?_
 rintro e u' w'' ⟨rfl,rfl,rfl⟩
 exact endCode (b:=w.heap.size) Tryz.results106 rfl hq (H2.out.write u2)
theorem followed_load {β : Type} (S : Sto) (hM : ∀ w,Meth S.t S.x S.ab w) (F : β→Cc→As) (n : Nat) (c : Int) (v : Fv) (k : Int→Ct.I β) (s : Ct.St) (h : SH B w (cloA Tryz.prog S.a (Ct.Rm 100) (cdA S F n) intA k v::S.a s::L)) (hs : Ct.Rm 101 s) :
  Calls Tryz.prog 105 #[S.v,.agg (ccL (loadC c v)).toArray] w fun e w'=>CP S F n B (k (s.load c).2) (s.load c).1 L e w':=by
 have hmL : ∀ w, (method 411 S.t S.x "Load").run Tryz.prog w = .ok (357, pab S.ab) w := fun w => (hM w).load
 obtain ⟨f,ff,fc,rfl⟩:=cloA_fn h (hs.less (by decide)) 0
 have h1:=h.alloc (cs:=ccL (loadC c (.fn f ff fc))) (t:=110)
 have h2:=h1.alloc (cs:=zeroL) (t:=110)
 have h3:=h2.alloc (cs:=[.int .i64 1,.int .i64 c,.int .i64 0,.int .i64 0]) (t:=106)
 rw [size_alloc,size_alloc] at h3
 obtain ⟨W0,hW0⟩ : ∃ W,(((w.alloc (.cells (ccL (loadC c (.fn f ff fc))).toArray 110)).alloc (.cells zeroL.toArray 110)).alloc (.cells [.int .i64 1,.int .i64 c,.int .i64 0,.int .i64 0].toArray 106))=W :=⟨_,rfl⟩
 rw [hW0] at h3
 have HW:=Lib.hid hW0
 have HL:=Lib.hid (sload_any S s c (h3.fr (.c r4 .n)) hs)
 have hmf : ∀ (fn : Fn) (first cap : Array Value) (w : World),(Instr.makeFunc fn first cap).run Tryz.prog w=.ok (.func fn first cap) w:=fun _ _ _ _=>rfl
 have hnil : ∀ (fn : Fn) (first cap : Array Value) (w : World),(binOp BinOp.eql 107 (.func fn first cap) .nilFunc).run Tryz.prog w=.ok (.bool false) w:=fun _ _ _ _=>by kernel_rfl
 have hnil2 : ∀ (T : TypeId) (v : Value) (w : World),(binOp BinOp.neq 101 (.iface T v) .nilIface).run Tryz.prog w=.ok (.bool true) w:=fun _ _ _=>by kernel_rfl
 have HS:=Lib.hid hs
 clear h h1 h2 h3 hW0 hM hs
 unfold ccL loadC Fv.val Sto.v
 go_enter_defers Tryz.func105,Tryz.ntmps105
 go_wp2_with fail
 refine (with_world HW.out HL.out).mono ?_
 rintro e w1 ⟨rfl,h4⟩
 have H4:=Lib.hid (h4.fr (.c r4 (.c r0 .n)))
 have HC:=Lib.hid (calls_fv (H4.out.useC (rm_load HS.out c) (s.load c).2))
 have hent:=HC.out.1
 unfold Ents at hent
 have c1 : w1.cell? ⟨w.heap.size,4,none⟩=some (.func (.func f) ff.toArray fc.toArray):=h4.c a3 rfl
 clear h4 H4
 go_wp2_with fail
 refine (by simpa [intA] using HC.out.2 : Calls _ _ _ _ _).mono ?_
 rintro e w2 ⟨s2,t2,c2,hq,rfl,h5⟩
 have H5:=Lib.hid h5
 clear h5
 go_wp2_with (refine wpList_store_row rfl 110 (.tmp 4) (.tmp 27) rfl (w.heap.size+1) (ccL c2).toArray rfl rfl 110 zeroL.toArray (H5.out.b a3) info_Code rfl (ccL_all c2) ?_)
 refine leaves_cons (f:=156) (args:=#[.pointer (some ⟨w.heap.size+1,0,none⟩)]) (by simp) (by simp [go_sem]) ?_
 refine (followedD_idle ⟨w.heap.size+1,0,none⟩ _).mono ?_
 rintro e u' w'' ⟨rfl,rfl,rfl⟩
 exact endCode (b:=w.heap.size+1) Tryz.results105 rfl hq (SH.dropLast2 ((H5.out.write u3).fr (.c r0 (.c r0 (.c r1 (.c r0 (.c r0 .n)))))))
theorem followed_cas {β : Type} (S : Sto) (hM : ∀ w,Meth S.t S.x S.ab w) (F : β→Cc→As) (n : Nat) (c o x : Int) (v : Fv) (k : Bool→Ct.I β) (s : Ct.St) (h : SH B w (cloA Tryz.prog S.a (Ct.Rm 100) (cdA S F n) boolA k v::S.a s::L)) (hs : Ct.Rm 101 s) :
  Calls Tryz.prog 105 #[S.v,.agg (ccL (casC c o x v)).toArray] w fun e w'=>CP S F n B (k (s.cas c o x).2) (s.cas c o x).1 L e w':=by
 have hmL : ∀ w, (method 411 S.t S.x "CAS").run Tryz.prog w = .ok (356, pab S.ab) w := fun w => (hM w).cas
 obtain ⟨f,ff,fc,rfl⟩:=cloA_fn h (hs.less (by decide)) false
 have h1:=h.alloc (cs:=ccL (casC c o x (.fn f ff fc))) (t:=110)
 have h2:=h1.alloc (cs:=zeroL) (t:=110)
 have h3:=h2.alloc (cs:=[.int .i64 2,.int .i64 c,.int .i64 o,.int .i64 x]) (t:=106)
 rw [size_alloc,size_alloc] at h3
 obtain ⟨W0,hW0⟩ : ∃ W,(((w.alloc (.cells (ccL (casC c o x (.fn f ff fc))).toArray 110)).alloc (.cells zeroL.toArray 110)).alloc (.cells [.int .i64 2,.int .i64 c,.int .i64 o,.int .i64 x].toArray 106))=W :=⟨_,rfl⟩
 rw [hW0] at h3
 have HW:=Lib.hid hW0
 have HL:=Lib.hid (scas_any S s c o x (h3.fr (.c r4 .n)) hs)
 have hmf : ∀ (fn : Fn) (first cap : Array Value) (w : World),(Instr.makeFunc fn first cap).run Tryz.prog w=.ok (.func fn first cap) w:=fun _ _ _ _=>rfl
 have hnil : ∀ (fn : Fn) (first cap : Array Value) (w : World),(binOp BinOp.eql 108 (.func fn first cap) .nilFunc).run Tryz.prog w=.ok (.bool false) w:=fun _ _ _ _=>by kernel_rfl
 have hnil2 : ∀ (T : TypeId) (v : Value) (w : World),(binOp BinOp.neq 101 (.iface T v) .nilIface).run Tryz.prog w=.ok (.bool true) w:=fun _ _ _=>by kernel_rfl
 have HS:=Lib.hid hs
 clear h h1 h2 h3 hW0 hM hs
 unfold ccL casC Fv.val Sto.v
 go_enter_defers Tryz.func105,Tryz.ntmps105
 go_wp2_with fail
 refine (with_world HW.out HL.out).mono ?_
 rintro e w1 ⟨rfl,h4⟩
 have H4:=Lib.hid (h4.fr (.c r4 (.c r0 .n)))
 have HC:=Lib.hid (calls_fv (H4.out.useC (rm_cas HS.out c o x) (s.cas c o x).2))
 have hent:=HC.out.1
 unfold Ents at hent
 have c1 : w1.cell? ⟨w.heap.size,5,none⟩=some (.func (.func f) ff.toArray fc.toArray):=h4.c a3 rfl
 clear h4 H4
 go_wp2_with fail
 refine (by simpa [boolA] using HC.out.2 : Calls _ _ _ _ _).mono ?_
 rintro e w2 ⟨s2,t2,c2,hq,rfl,h5⟩
 have H5:=Lib.hid h5
 clear h5
 go_wp2_with (refine wpList_store_row rfl 110 (.tmp 4) (.tmp 47) rfl (w.heap.size+1) (ccL c2).toArray rfl rfl 110 zeroL.toArray (H5.out.b a3) info_Code rfl (ccL_all c2) ?_)
 refine leaves_cons (f:=156) (args:=#[.pointer (some ⟨w.heap.size+1,0,none⟩)]) (by simp) (by simp [go_sem]) ?_
 refine (followedD_idle ⟨w.heap.size+1,0,none⟩ _).mono ?_
 rintro e u' w'' ⟨rfl,rfl,rfl⟩
 exact endCode (b:=w.heap.size+1) Tryz.results105 rfl hq (SH.dropLast2 ((H5.out.write u3).fr (.c r0 (.c r0 (.c r1 (.c r0 (.c r0 .n)))))))
theorem cd_facts {u : Ct.I Ct.Result} {c : Cc} (h : SH B w (cdA S resF n u c::L)) : (c.kind==0)=u.ended.isSome∧c.kind=u.acc.kind∧c.cell=u.acc.cell∧c.old=u.acc.old∧c.new=u.acc.new∧∀ r,u.ended=some r→c.r=r:=by
 cases u with
 | ret r =>
  have hc : c=doneC r:=by
   cases n with
   | zero=>exact (SH.pu h).1
   | succ n=>exact (SH.pu h).1
  subst hc; exact ⟨rfl,rfl,rfl,rfl,rfl,fun r' e=>by injection e⟩
 | load a k =>
  have hc : ∃ v,c=loadC a v:=by
   cases n with
   | zero=>obtain ⟨v,h⟩:=SH.ex h; exact ⟨v,(SH.pu (SH.se h)).1⟩
   | succ n=>obtain ⟨v,h⟩:=SH.ex h; exact ⟨v,(SH.pu (SH.se h)).1⟩
  obtain ⟨v,rfl⟩:=hc; exact ⟨rfl,rfl,rfl,rfl,rfl,fun r' e=>by cases e⟩
 | cas a o x k =>
  have hc : ∃ v,c=casC a o x v:=by
   cases n with
   | zero=>obtain ⟨v,h⟩:=SH.ex h; exact ⟨v,(SH.pu (SH.se h)).1⟩
   | succ n=>obtain ⟨v,h⟩:=SH.ex h; exact ⟨v,(SH.pu (SH.se h)).1⟩
  obtain ⟨v,rfl⟩:=hc; exact ⟨rfl,rfl,rfl,rfl,rfl,fun r' e=>by cases e⟩
 | alloc m i k=>cases n <;> exact ((SH.pu h).1).elim
 | cell i k=>cases n <;> exact ((SH.pu h).1).elim
 | gen k=>cases n <;> exact ((SH.pu h).1).elim
 | node r k=>cases n <;> exact ((SH.pu h).1).elim
theorem followed_any (S : Sto) (hM : ∀ w,Meth S.t S.x S.ab w) (n : Nat) (u : Ct.I Ct.Result) (c : Cc) (s : Ct.St) (h : SH B w (cdA S resF (n+1) u c::S.a s::L)) (hs : Ct.Rm 101 s) (hu : u.ended=none) :
  Calls Tryz.prog 105 #[S.v,.agg (ccL c).toArray] w fun e w'=>∃ s' u' c',u.step s=(s',u')∧e=.returned (.agg (ccL c').toArray)∧SH B w' (cdA S resF n u' c'::S.a s'::L):=by
 cases u with
 | ret r=>cases hu
 | load a k =>
  obtain ⟨v,h⟩:=SH.ex h
  obtain ⟨hc,h2⟩:=SH.pu (SH.se h)
  subst hc
  exact followed_load S hM resF n a v k s h2 hs
 | cas a o x k =>
  obtain ⟨v,h⟩:=SH.ex h
  obtain ⟨hc,h2⟩:=SH.pu (SH.se h)
  subst hc
  exact followed_cas S hM resF n a o x v k s h2 hs
 | alloc m i k=>exact ((SH.pu h).1).elim
 | cell i k=>exact ((SH.pu h).1).elim
 | gen k=>exact ((SH.pu h).1).elim
 | node r k=>exact ((SH.pu h).1).elim
def taskV (S : Sto) (c : Cc) (k : Nat) (busy : Bool) : List Value:=S.v::(ccL c ++ [.int .i64 ((k : Nat) : Int),.bool busy])
def taskA (S : Sto) (n tb : Nat) (u : Ct.I Ct.Result) (k : Nat) : As:=ex fun c : Cc=>se [bl tb (taskV S c k false) 125,cdA S resF n u c]
end Go.Proofs.YtmliojdkmfhmmaaGreat
end
section
namespace Go.Proofs.YtmliojdkmfhmmaaGreat
open Go.E
theorem sz_110 : (Tryz.prog.info? 110).map (·.size)=some 14:=by kernel_rfl
theorem en_139 : Ents Tryz.prog 139:=enG Tryz.func139 rfl rfl
theorem en_196 : Ents Tryz.prog 196:=enG Tryz.func196 rfl rfl
theorem en_69 : Ents Tryz.prog 69:=enG Tryz.func69 rfl rfl
theorem en_119 : Ents Tryz.prog 119:=enG Tryz.func119 rfl rfl
theorem en_234 : Ents Tryz.prog 234:=enG Tryz.func234 rfl rfl
theorem en_187 : Ents Tryz.prog 187:=enG Tryz.func187 rfl rfl
theorem en_236 : Ents Tryz.prog 236:=enG Tryz.func236 rfl rfl
theorem en_237 : Ents Tryz.prog 237:=enG Tryz.func237 rfl rfl
theorem en_238 : Ents Tryz.prog 238:=enG Tryz.func238 rfl rfl
theorem en_239 : Ents Tryz.prog 239:=enG Tryz.func239 rfl rfl
theorem en_120 : Ents Tryz.prog 120:=enG Tryz.func120 rfl rfl
theorem en_182 : Ents Tryz.prog 182:=enG Tryz.func182 rfl rfl
theorem en_185 : Ents Tryz.prog 185:=enG Tryz.func185 rfl rfl
theorem en_186 : Ents Tryz.prog 186:=enG Tryz.func186 rfl rfl
theorem en_189 : Ents Tryz.prog 189:=enG Tryz.func189 rfl rfl
theorem en_93 : Ents Tryz.prog 93:=enG Tryz.func93 rfl rfl
theorem en_137 : Ents Tryz.prog 137:=enG Tryz.func137 rfl rfl
theorem en_138 : Ents Tryz.prog 138:=enG Tryz.func138 rfl rfl
theorem en_141 : Ents Tryz.prog 141:=enG Tryz.func141 rfl rfl
theorem en_142 : Ents Tryz.prog 142:=enG Tryz.func142 rfl rfl
theorem en_111 : Ents Tryz.prog 111:=enG Tryz.func111 rfl rfl
theorem en_160 : Ents Tryz.prog 160:=enG Tryz.func160 rfl rfl
theorem en_161 : Ents Tryz.prog 161:=enG Tryz.func161 rfl rfl
theorem en_162 : Ents Tryz.prog 162:=enG Tryz.func162 rfl rfl
theorem en_163 : Ents Tryz.prog 163:=enG Tryz.func163 rfl rfl
theorem en_197 : Ents Tryz.prog 197:=enG Tryz.func197 rfl rfl
theorem en_198 : Ents Tryz.prog 198:=enG Tryz.func198 rfl rfl
theorem en_159 : Ents Tryz.prog 159:=enG Tryz.func159 rfl rfl
theorem en_90 : Ents Tryz.prog 90:=enG Tryz.func90 rfl rfl
theorem en_67 : Ents Tryz.prog 67:=enG Tryz.func67 rfl rfl
end Go.Proofs.YtmliojdkmfhmmaaGreat
end
