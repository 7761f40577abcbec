/- Parts of a proof: Pk, Zw, Ayb. -/
import Derived.Test.YtnhdmcipglnkfaaGreatW31
import Derived.Defers
import Derived.Recover
import Derived.Deep.MidRow
set_option linter.unusedVariables false
set_option linter.unusedSimpArgs false
set_option maxRecDepth 100000
set_option maxHeartbeats 4000000
section
namespace Go.Q9
open Go.Proofs.Tryz
open Go.RowKit Go.E
variable{B w w':World}{L:List As}{α β:Type}{S:fX}{F:β->Cc->As}{n m j:Nat}
theorem Eg{P:Program}{f:FuncId}{args:Array Value}{w W:World}{R:Ending->World->Prop}(h:w=W)(hc:Calls P f args W R):Calls P f args w R:=h▸hc
theorem size_alloc(w:World)(o:Obj):(w.alloc o).heap.size=w.heap.size+1:=by simp
theorem SH.Wo{a b c d f:As}(h:SH B w ([a,b,c,d,f]++L)):SH B w (a::b::c::L):=((h.fr (.c r3 (.c r3 .n))).drop).drop
def Cz:List Value:=Cm {}
theorem EH(p:Addr)(w:World):
  CallsD prog 109 #[.pointer (some p)] .returning w λe u' w'=>e=.returned (.tuple #[])/\u'=.returning/\w'=w:=by
 refine callsD_of_wpS func109 rfl λc₀ cs hu=>?_
 apply wpS_seq
 apply wpS_region
 simp[wpOpsS,go_sem,recoverD,hu,ntmps109,Exit.thenS]
 refine wpS_cond (t:=false) (by simp[Act.eval,Array.replicate]) ?_
 refine wpS_of_wp (wp_skip ?_)
 cases c₀
 simp_all [bodyPostS,results,results109]
theorem zJ(p:Addr)(w:World):
  CallsD prog 131 #[.pointer (some p)] .returning w λe u' w'=>e=.returned (.tuple #[])/\u'=.returning/\w'=w:=by
 refine callsD_of_wpS func131 rfl λc₀ cs hu=>?_
 apply wpS_seq
 apply wpS_region
 simp[wpOpsS,go_sem,recoverD,hu,ntmps131,Exit.thenS]
 refine wpS_cond (t:=false) (by simp[Act.eval,Array.replicate]) ?_
 refine wpS_of_wp (wp_skip ?_)
 cases c₀
 simp_all [bodyPostS,results,results131]
theorem Aj:(prog.info? 94).map (·.size)=some 14:=by kernel_rfl
theorem Qz{f:FuncId}{ff fc:List Value}{args:List Value}{R:Ending->World->Prop}(h:lS prog (.fn f ff fc) args w R):nH prog f/\Calls prog f (ff++args++fc).toArray w R:=by
 obtain⟨f',ff',fc',e,h1,h2⟩:=h
 injection e with e1 e2 e3
 subst e1 e2 e3
 exact⟨h1,h2⟩
theorem Zh{P:Program}{St:Ct.St->As}{ok:Ct.St->Prop}{cd:Ct.I β->Cc->As}{args:α->List Value}{k:α->Ct.I β}{v:Fv}{s:Ct.St}(h:SH B w (fE P St ok cd args k v::St s::L))(hs:ok s)(a:α):∃f ff fc,v=.fn f ff fc:=by
 obtain⟨f,ff,fc,e,_⟩:=h.X7 hs a
 exact⟨f,ff,fc,e⟩
theorem CL(c:Cc):(Cm c).toArray.all (·.oneCell')=true:=by rw[List.all_toArray];exact kF c
theorem AH{fn:Func}{p:Tmp}{tmps:Array Value}{b:Nat}{c:Cc}{t t':Ct.I β}{s s':Ct.St}(hr:fn.results=#[.cell p 94])(hp:tmps.getD p undef=.pointer (some ⟨b,0,none⟩))
  (hq:t.head s=(s',t')) (h:SH B w (mA S F n t' c::S.a s'::bl b (Cm c) 94::L)):∃v,(results fn tmps).run prog w=.ok v w/\CP S F n B t s L (.returned v) w:=by
 exact⟨.agg (Cm c).toArray,results_cell_row hr _ _ b 94 _ (0,0) _ hp (h.b a2) underlying94 rfl Aj,jW hq ((h.fr (.c r2 .n)).drop)⟩
theorem Uw{β:Type}(S:fX)(F:β->Cc->As)(n:Nat)(v:Fv)(k:Unit->Ct.I β)(s:Ct.St)(h:SH B w (gY S F n 60 yJ k v::S.a s::L))(hs:Ct.Rm 60 s):
  Calls prog 73 #[v.val] w λe w'=>CP S F n B (k ()) s L e w':=by
 obtain⟨f,ff,fc,rfl⟩:=Zh h hs ()
 have h1:SH B (w.alloc (.cells Cz.toArray 94)) (bl w.heap.size Cz 94::_):=h.alloc
 obtain⟨W0,YC⟩:∃W,(w.alloc (.cells Cz.toArray 94))=W:=⟨_,rfl⟩
 rw[YC]at h1
 have HW:=Lib.hid YC
 have HC:=Lib.hid (Qz (pR (h1.fr (.c r1 (.c r1 .n))) hs ()))
 have hmf:∀(fn:Fn) (first cap:Array Value) (w:World),(Instr.makeFunc fn first cap).run prog w=.ok (.func fn first cap) w:=λ_ _ _ _=>rfl
 have aLs:∀(fn:Fn) (first cap:Array Value) (w:World),(binOp BinOp.eql 100 (.func fn first cap) .nilFunc).run prog w=.ok (.bool false) w:=λ_ _ _ _=>by kernel_rfl
 have hent:=HC.out.1
 unfold nH at hent
 clear h h1 YC
 unfold Fv.val
 go_enter_defers func73,ntmps73
 go_wp2_with fail
 refine(Eg HW.out (by simpa[yJ]using HC.out.2)).mono ?_
 rintro e w2 ⟨s2,t2,c,hq,rfl,h2⟩
 have H2:=Lib.hid h2
 clear h2
 go_wp2_with (refine wpList_store_row rfl 94 (.tmp 2) (.tmp 8) rfl w.heap.size (Cm c).toArray rfl rfl 94 Cz.toArray (H2.out.b a2) Aj rfl (CL c) ?_)
 refine leaves_cons (f:=109) (args:=#[↑w.heap.size]) (by simp) (by simp[go_sem]) ?_
 refine(EH ⟨w.heap.size,0,none⟩ _).mono ?_
 rintro e u' w'' ⟨rfl,rfl,rfl⟩
 exact AH (b:=w.heap.size) results73 rfl hq (H2.out.write u2)
def Acs(S:fX)(name:String)(args:List Value)(v:Value)(A A':As):Prop:=
 ∃(f:FuncId) (r:Value),(∀w,(method 383 S.t S.x name).run prog w=.ok (f,r) w)/\nH prog f/\
  ∀(B w:World) (L:List As),SH B w (A::L)->Calls prog f (r::args).toArray w λe w'=>e=.returned v/\SH B w' (A'::L)
theorem Ri{β:Type}(S:fX)(A:As)(c:Int)(v0:Int)(F:β→Cc→As)(n:Nat)(f:FuncId)(ff fc:List Value)(k:Int→Ct.I β)(s:Ct.St)(ha:Acs S "Load" [↑c] (.int .i64 v0) A (S.a s))(h:SH B w (fE prog S.a (Ct.Rm 100) (mA S F n) eM k (.fn f ff fc)::A::L))(hs:Ct.Rm 100 s):
  Calls prog 83 #[S.v,.agg (Cm (sF c (.fn f ff fc))).toArray] w λe w'=>CP S F n B (k v0) s L e w':=by
 obtain⟨fL,rL,hmL,enL,hL⟩:=ha
 unfold nH at enL
 have h1:=h.alloc (cs:=Cm (sF c (.fn f ff fc))) (t:=94)
 have h2:=h1.alloc (cs:=Cz) (t:=94)
 have h3:=h2.alloc (cs:=[.int .i64 1,↑c,.int .i64 0,.int .i64 0]) (t:=90)
 rw[size_alloc,size_alloc]at h3
 obtain⟨W0,YC⟩:∃W,(((w.alloc (.cells (Cm (sF c (.fn f ff fc))).toArray 94)).alloc (.cells Cz.toArray 94)).alloc (.cells [.int .i64 1,↑c,.int .i64 0,.int .i64 0].toArray 90))=W:=⟨_,rfl⟩
 rw[YC]at h3
 have HW:=Lib.hid YC
 have HL:=Lib.hid (hL _ _ _ (h3.fr (.c r4 .n)))
 have hmf:∀(fn:Fn) (first cap:Array Value) (w:World),(Instr.makeFunc fn first cap).run prog w=.ok (.func fn first cap) w:=λ_ _ _ _=>rfl
 have aLs:∀(fn:Fn) (first cap:Array Value) (w:World),(binOp BinOp.eql 91 (.func fn first cap) .nilFunc).run prog w=.ok (.bool false) w:=λ_ _ _ _=>by kernel_rfl
 have aKf:∀(T:TypeId) (v:Value) (w:World),(binOp BinOp.neq 85 (.iface T v) .nilIface).run prog w=.ok (.bool true) w:=λ_ _ _=>by kernel_rfl
 have HS:=Lib.hid hs
 clear h h1 h2 h3 YC hL hs
 unfold Cm sF Fv.val fX.v
 go_enter_defers func83,ntmps83
 go_wp2_with fail
 refine(Eg HW.out HL.out).mono ?_
 rintro e w1 ⟨rfl,h4⟩
 have H4:=Lib.hid (h4.fr (.c r4 (.c r0 .n)))
 have HC:=Lib.hid (Qz (H4.out.X7 HS.out v0))
 have hent:=HC.out.1
 unfold nH at hent
 have c1:w1.cell? ⟨w.heap.size,4,none⟩=some (.func (.func f) ff.toArray fc.toArray):=h4.c a3 rfl
 clear h4 H4
 go_wp2_with fail
 refine(by simpa[eM]using HC.out.2:Calls _ _ _ _ _).mono ?_
 rintro e w2 ⟨s2,t2,c2,hq,rfl,h5⟩
 have H5:=Lib.hid h5
 clear h5
 go_wp2_with (refine wpList_store_row rfl 94 (.tmp 4) (.tmp 27) rfl (w.heap.size+1) (Cm c2).toArray rfl rfl 94 Cz.toArray (H5.out.b a3) Aj rfl (CL c2) ?_)
 refine leaves_cons (f:=131) (args:=#[.pointer (some ⟨w.heap.size+1,0,none⟩)]) (by simp) (by simp[go_sem]) ?_
 refine(zJ ⟨w.heap.size+1,0,none⟩ _).mono ?_
 rintro e u' w'' ⟨rfl,rfl,rfl⟩
 exact AH (b:=w.heap.size+1) results83 rfl hq (SH.Wo ((H5.out.write u3).fr (.c r0 (.c r0 (.c r1 (.c r0 (.c r0 .n)))))))
theorem Uj{β:Type}(S:fX)(A:As)(c o x:Int)(v0:Bool)(F:β→Cc→As)(n:Nat)(f:FuncId)(ff fc:List Value)(k:Bool→Ct.I β)(s:Ct.St)(ha:Acs S "CAS" [↑c,↑o,↑x] (.bool v0) A (S.a s))(h:SH B w (fE prog S.a (Ct.Rm 100) (mA S F n) iC k (.fn f ff fc)::A::L))(hs:Ct.Rm 100 s):
  Calls prog 83 #[S.v,.agg (Cm (Bo c o x (.fn f ff fc))).toArray] w λe w'=>CP S F n B (k v0) s L e w':=by
 obtain⟨fL,rL,hmL,enL,hL⟩:=ha
 unfold nH at enL
 have h1:=h.alloc (cs:=Cm (Bo c o x (.fn f ff fc))) (t:=94)
 have h2:=h1.alloc (cs:=Cz) (t:=94)
 have h3:=h2.alloc (cs:=[.int .i64 2,↑c,↑o,↑x]) (t:=90)
 rw[size_alloc,size_alloc]at h3
 obtain⟨W0,YC⟩:∃W,(((w.alloc (.cells (Cm (Bo c o x (.fn f ff fc))).toArray 94)).alloc (.cells Cz.toArray 94)).alloc (.cells [.int .i64 2,↑c,↑o,↑x].toArray 90))=W:=⟨_,rfl⟩
 rw[YC]at h3
 have HW:=Lib.hid YC
 have HL:=Lib.hid (hL _ _ _ (h3.fr (.c r4 .n)))
 have hmf:∀(fn:Fn) (first cap:Array Value) (w:World),(Instr.makeFunc fn first cap).run prog w=.ok (.func fn first cap) w:=λ_ _ _ _=>rfl
 have aLs:∀(fn:Fn) (first cap:Array Value) (w:World),(binOp BinOp.eql 92 (.func fn first cap) .nilFunc).run prog w=.ok (.bool false) w:=λ_ _ _ _=>by kernel_rfl
 have aKf:∀(T:TypeId) (v:Value) (w:World),(binOp BinOp.neq 85 (.iface T v) .nilIface).run prog w=.ok (.bool true) w:=λ_ _ _=>by kernel_rfl
 have HS:=Lib.hid hs
 clear h h1 h2 h3 YC hL hs
 unfold Cm Bo Fv.val fX.v
 go_enter_defers func83,ntmps83
 go_wp2_with fail
 refine(Eg HW.out HL.out).mono ?_
 rintro e w1 ⟨rfl,h4⟩
 have H4:=Lib.hid (h4.fr (.c r4 (.c r0 .n)))
 have HC:=Lib.hid (Qz (H4.out.X7 HS.out v0))
 have hent:=HC.out.1
 unfold nH at hent
 have c1:w1.cell? ⟨w.heap.size,5,none⟩=some (.func (.func f) ff.toArray fc.toArray):=h4.c a3 rfl
 clear h4 H4
 go_wp2_with fail
 refine(by simpa[iC]using HC.out.2:Calls _ _ _ _ _).mono ?_
 rintro e w2 ⟨s2,t2,c2,hq,rfl,h5⟩
 have H5:=Lib.hid h5
 clear h5
 go_wp2_with (refine wpList_store_row rfl 94 (.tmp 4) (.tmp 47) rfl (w.heap.size+1) (Cm c2).toArray rfl rfl 94 Cz.toArray (H5.out.b a3) Aj rfl (CL c2) ?_)
 refine leaves_cons (f:=131) (args:=#[.pointer (some ⟨w.heap.size+1,0,none⟩)]) (by simp) (by simp[go_sem]) ?_
 refine(zJ ⟨w.heap.size+1,0,none⟩ _).mono ?_
 rintro e u' w'' ⟨rfl,rfl,rfl⟩
 exact AH (b:=w.heap.size+1) results83 rfl hq (SH.Wo ((H5.out.write u3).fr (.c r0 (.c r0 (.c r1 (.c r0 (.c r0 .n)))))))
theorem Uk{β:Type}(S:fX)(hM:∀w,OP S.t S.x S.ab w)(F:β->Cc->As)(n:Nat)(c:Int)(v:Fv)(k:Int->Ct.I β)(s:Ct.St)(h:SH B w (fE prog S.a (Ct.Rm 100) (mA S F n) eM k v::S.a s::L))(hs:Ct.Rm 101 s):
  Calls prog 83 #[S.v,.agg (Cm (sF c v)).toArray] w λe w'=>CP S F n B (k (s.load c).2) (s.load c).1 L e w':=by
 obtain⟨f,ff,fc,rfl⟩:=Zh h (hs.less (by decide)) 0
 exact Ri S (S.a s) c _ F n f ff fc k _ ⟨_,_,λw=>(hM w).load,eF,λB w L h=>UG S s c h hs⟩ h (W1 hs c)
theorem BY{β:Type}(S:fX)(hM:∀w,OP S.t S.x S.ab w)(F:β->Cc->As)(n:Nat)(c o x:Int)(v:Fv)(k:Bool->Ct.I β)(s:Ct.St)(h:SH B w (fE prog S.a (Ct.Rm 100) (mA S F n) iC k v::S.a s::L))(hs:Ct.Rm 101 s):
  Calls prog 83 #[S.v,.agg (Cm (Bo c o x v)).toArray] w λe w'=>CP S F n B (k (s.cH c o x).2) (s.cH c o x).1 L e w':=by
 obtain⟨f,ff,fc,rfl⟩:=Zh h (hs.less (by decide)) false
 exact Uj S (S.a s) c o x _ F n f ff fc k _ ⟨_,_,λw=>(hM w).cH,eF,λB w L h=>g8 S s c o x h hs⟩ h (aDb hs c o x)
theorem Hr{u:Ct.I Ct.Result}{c:Cc}(h:SH B w (mA S jG n u c::L)):(c.kind==0)=u.ended.isSome/\c.kind=u.acc.kind/\c.cell=u.acc.cell/\c.dO=u.acc.dO/\c.new=u.acc.new/\∀r,u.ended=some r->c.r=r:=by
 cases u with
 |ret r=>
  have hc:c=TI r:=by
   cases n with
   |zero=>exact(SH.pu h).1
   |succ n=>exact(SH.pu h).1
  subst hc;exact⟨rfl,rfl,rfl,rfl,rfl,λr' e=>by injection e⟩
 |load a k=>
  have hc:∃v,c=sF a v:=by
   cases n with
   |zero=>obtain⟨v,h⟩:=SH.ex h;exact⟨v,(SH.pu (SH.se h)).1⟩
   |succ n=>obtain⟨v,h⟩:=SH.ex h;exact⟨v,(SH.pu (SH.se h)).1⟩
  obtain⟨v,rfl⟩:=hc;exact⟨rfl,rfl,rfl,rfl,rfl,λr' e=>by cases e⟩
 |cH a o x k=>
  have hc:∃v,c=Bo a o x v:=by
   cases n with
   |zero=>obtain⟨v,h⟩:=SH.ex h;exact⟨v,(SH.pu (SH.se h)).1⟩
   |succ n=>obtain⟨v,h⟩:=SH.ex h;exact⟨v,(SH.pu (SH.se h)).1⟩
  obtain⟨v,rfl⟩:=hc;exact⟨rfl,rfl,rfl,rfl,rfl,λr' e=>by cases e⟩
 |alloc m i k=>cases n<;>exact((SH.pu h).1).elim
 |cell i k=>cases n<;>exact((SH.pu h).1).elim
 |gen k=>cases n<;>exact((SH.pu h).1).elim
 |node r k=>cases n<;>exact((SH.pu h).1).elim
theorem Zl(S:fX)(hM:∀w,OP S.t S.x S.ab w)(n:Nat)(u:Ct.I Ct.Result)(c:Cc)(s:Ct.St)(h:SH B w (mA S jG (n+1) u c::S.a s::L))(hs:Ct.Rm 101 s)(hu:u.ended=none):
  Calls prog 83 #[S.v,.agg (Cm c).toArray] w λe w'=>∃s' u' c',u.step s=(s',u')/\e=.returned (.agg (Cm c').toArray)/\SH B w' (mA S jG n u' c'::S.a s'::L):=by
 cases u with
 |ret r=>cases hu
 |load a k=>
  obtain⟨v,h⟩:=SH.ex h
  obtain⟨hc,h2⟩:=SH.pu (SH.se h)
  subst hc
  exact Uk S hM jG n a v k s h2 hs
 |cH a o x k=>
  obtain⟨v,h⟩:=SH.ex h
  obtain⟨hc,h2⟩:=SH.pu (SH.se h)
  subst hc
  exact BY S hM jG n a o x v k s h2 hs
 |alloc m i k=>exact((SH.pu h).1).elim
 |cell i k=>exact((SH.pu h).1).elim
 |gen k=>exact((SH.pu h).1).elim
 |node r k=>exact((SH.pu h).1).elim
def xU(S:fX)(c:Cc)(k:Nat)(busy:Bool):List Value:=S.v::(Cm c++[.int .i64 (k:Int),.bool busy])
def nM(S:fX)(n tb:Nat)(u:Ct.I Ct.Result)(k:Nat):As:=ex λc:Cc=>se [bl tb (xU S c k false) 102,mA S jG n u c]
end Go.Q9
end
section
namespace Go.E
section
variable{P:Program}{n:Nat}{K:kG}{e:Tm}{B w:World}{L L' L1 L2:List As}{ops:Array Oper}{l:List Oper}{S:World->Prop}{ls:List (Oper×Bool)}{d:Option Tmp}{ty:TypeId}{ps:String}{af:Array Edge}{f:FuncId}{ats:Array TypeId}
theorem SH.hc{b:Nat}{cs:List Value}{t:TypeId}(h:SH B w L)(m:At L (bl b cs t)):w.heap[b]?=some (.cells cs.toArray t (0,0)):=h.b m
theorem rc{fn:Func}{R:Ending->World->Prop}{t:Nat}{ty u:TypeId}{g k:Nat}{cs:List Value}(h:SH B w L)(hk:R (.returned (.agg cs.toArray)) w)(hr:fn.results=#[.cell t ty]:=by rfl)(hp:ev n e (.tmp t)=some (.pointer (some ⟨g,0,none⟩)):=by rfl)(m:At L (bl g cs u):=by repeat first|exact At.z|apply At.s)[hR:Row P ty k](hc:k=cs.length:=by rfl):fin P fn n R .ret e w:=rr (cD hr hp (h.b m) (hc▸hR.h)) hk
theorem aCy{α0:Type}{v:α0->Value}{L2 L3:α0->List As}{G':α0->World->Prop}{q:α0->Prop}{x0v:Operand}{az:Array Operand}{u:Fv}{vs:List Value}(c:lS P u vs w λx w'=>∃x0:α0,q x0/\x=.returned (v x0)/\SH B w' (L2 x0))(k:∀x0,q x0->∀w',SH B w' (L3 x0)->G' x0 w')(hx:ev n e x0v=some u.val:=by rfl)(ha:uU n e az.toList=some vs:=by rfl)(r:∀x0,q x0->∀w',SH B w' (L2 x0)->(∀w',SH B w' (L3 x0)->G' x0 w')->X P n ops l K (Tm.put e d (v x0)) w':=by intro x0 hq w h k;exact go h k):X P n ops (⟨d,.call ⟨.value x0v,az,ats⟩,ty,ps,af,none⟩::l) K e w:=O6 hx ha (c.mono λx w' ⟨x0,hq,e,h⟩=>⟨_,e,r x0 hq w' h (λw h=>k x0 hq w h)⟩)
theorem AT{α0:Type}{α1:Type}{α2:Type}{v:α0->α1->α2->Value}{L2 L3:α0->α1->α2->List As}{G':α0->α1->α2->World->Prop}{q:α0->α1->α2->Prop}{x0v:Operand}{az:Array Operand}{u:Fv}{vs:List Value}(c:lS P u vs w λx w'=>∃x0:α0,∃x1:α1,∃x2:α2,q x0 x1 x2/\x=.returned (v x0 x1 x2)/\SH B w' (L2 x0 x1 x2))(k:∀x0 x1 x2,q x0 x1 x2->∀w',SH B w' (L3 x0 x1 x2)->G' x0 x1 x2 w')(hx:ev n e x0v=some u.val:=by rfl)(ha:uU n e az.toList=some vs:=by rfl)(r:∀x0 x1 x2,q x0 x1 x2->∀w',SH B w' (L2 x0 x1 x2)->(∀w',SH B w' (L3 x0 x1 x2)->G' x0 x1 x2 w')->X P n ops l K (Tm.put e d (v x0 x1 x2)) w':=by intro x0 x1 x2 hq w h k;exact go h k):X P n ops (⟨d,.call ⟨.value x0v,az,ats⟩,ty,ps,af,none⟩::l) K e w:=O6 hx ha (c.mono λx w' ⟨x0,x1,x2,hq,e,h⟩=>⟨_,e,r x0 x1 x2 hq w' h (λw h=>k x0 x1 x2 hq w h)⟩)
theorem X2{α0:Type}{v:α0->Value}{L2 L3:α0->List As}{G':α0->World->Prop}{p:α0->Prop}{x0v:Operand}{az:Array Operand}{u:Fv}{vs:List Value}(c:lS P u vs w λx w'=>∃x0:α0,x=.returned (v x0)/\SH B w' (L2 x0)/\p x0)(k:∀x0,∀w',SH B w' (L3 x0)->p x0->G' x0 w')(hx:ev n e x0v=some u.val:=by rfl)(ha:uU n e az.toList=some vs:=by rfl)(r:∀x0,∀w',SH B w' (L2 x0)->p x0->(∀w',SH B w' (L3 x0)->G' x0 w')->X P n ops l K (Tm.put e d (v x0)) w':=by intro x0 w h hp k;exact go h k):X P n ops (⟨d,.call ⟨.value x0v,az,ats⟩,ty,ps,af,none⟩::l) K e w:=O6 hx ha (c.mono λx w' ⟨x0,e,h,hp⟩=>⟨_,e,r x0 w' h hp (λw h=>k x0 w h hp)⟩)
end
end Go.E
namespace Go.Q9
open Go.Proofs.Tryz
open Go.E
variable{n:Nat}{K:kG}{e:Tm}{B w:World}{L L' L1 L2:List As}{ops:Array Oper}{l:List Oper}{S:World->Prop}{ls:List (Oper×Bool)}{f:FuncId}{d:Option Tmp}{ty:TypeId}{ps:String}{af:Array Edge}{ats:Array TypeId}
theorem F4(Z:fX){xo:Operand}{name:String}{az:Array Operand}{s0:Ct.St}(hS:SH B w L){α0:Type}{v:α0->Value}{L2 L3:α0->List As}{G':α0->World->Prop}{vs:List Value}(c:Calls prog f (.pointer (some ⟨Z.ab,0,none⟩)::vs).toArray w λx w'=>∃x0:α0,x=.returned (v x0)/\SH B w' (L2 x0))(k:∀x0,∀w',SH B w' (L3 x0)->G' x0 w')(m:At L (Z.a s0):=by repeat first|exact At.z|apply At.s)(mt:∀{w:World} {L:List As} {s:Ct.St},SH B w L->At L (Z.a s)->Inv prog Z.v name w f ↑Z.ab:=by first|exact fX.sN _|exact fX.sA _|exact fX.sC _|exact fX.sG _)(hx:ev n e xo=some Z.v:=by rfl)(ha:uU n e az.toList=some vs:=by rfl)(r:∀x0,∀w',SH B w' (L2 x0)->(∀w',SH B w' (L3 x0)->G' x0 w')->X prog n ops l K (Tm.put e d (v x0)) w':=by intro x0 w h k;exact go h k):X prog n ops (⟨d,.call ⟨.invoke xo name,az,ats⟩,ty,ps,af,none⟩::l) K e w:=cl (ci (mt hS m) hx ha) (c.mono λx w' ⟨x0,e,h⟩=>⟨_,e,r x0 w' h (λw h=>k x0 w h)⟩)
end Go.Q9
end
section
namespace Go.Q9
open Go.Proofs.Tryz
open Go.E
theorem aEo:Dz prog 87=some 3:=by kernel_rfl
theorem aEm:Dz prog 94=some 14:=by kernel_rfl
theorem uI:(prog.info? 94).map (·.size)=some 14:=by kernel_rfl
theorem GV:zc prog 94=some [.int .i64 0,.int .i64 0,.int .i64 0,.int .i64 0,.nilFunc,.nilFunc,.int .i64 0,↑false,.int .u64 0,.string .empty,.int .i64 0,.int .i64 0,.int .i64 0,↑false]:=by kernel_rfl
end Go.Q9
end
