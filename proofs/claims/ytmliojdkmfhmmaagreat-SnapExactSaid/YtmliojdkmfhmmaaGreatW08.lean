/- Parts of a proof: C1. -/
import Derived.Test.YtmliojdkmfhmmaaGreatW04
import Derived.Test.YtmliojdkmfhmmaaGreatW07
set_option linter.unusedVariables false
set_option linter.unusedSimpArgs false
set_option maxRecDepth 100000
set_option maxHeartbeats 4000000
section
namespace Go.Ct
def I.head {α : Type} : I α→St→St × I α
 | .ret a,s=>(s,.ret a)
 | .load c k,s=>(s,.load c k)
 | .cas c o n k,s=>(s,.cas c o n k)
 | .alloc n i k,s=>(k (s.alloc n i).2).head (s.alloc n i).1
 | .cell i k,s=>(k (s.newCell i).2).head (s.newCell i).1
 | .gen k,s=>(k s.newGen.2).head s.newGen.1
 | .node r k,s=>(k (s.node r)).head s
variable {α : Type} {s : St} {R : St × I α}
theorem qN {r : Int} {k : Node→I α} (h : (k (s.node r)).head s=R) : (I.node r k).head s=R:=h
theorem qA {n : Node} {i : Int} {k : Int→I α} (h : (k (s.alloc n i).2).head (s.alloc n i).1=R) : (I.alloc n i k).head s=R:=h
theorem qC {i : Int} {k : Int→I α} (h : (k (s.newCell i).2).head (s.newCell i).1=R) : (I.cell i k).head s=R:=h
theorem qG {k : Int→I α} (h : (k s.newGen.2).head s.newGen.1=R) : (I.gen k).head s=R:=h
theorem qT {c : Bool} {a b : I α} (hc : c=true) (h : a.head s=R) : (bif c then a else b).head s=R:=by rw [hc]; exact h
theorem qF {c : Bool} {a b : I α} (hc : c=false) (h : b.head s=R) : (bif c then a else b).head s=R:=by rw [hc]; exact h
end Go.Ct
namespace Go.E
open Go.Ct (I St)
variable {B w : World} {L : List As} {A A' : As} {P : Program}
def boxA (Q : World→(Nat→Prop)→(Nat→Prop)→Prop) : As where
 p w O R:=(∀ k,O k∨R k→k<w.heap.size)∧(∀ k,O k→¬ R k)∧∀ w' : World,(w'.os=w.os∧w'.tape=w.tape∧w'.output=w.output∧w.heap.size≤w'.heap.size)→(∀ k,O k∨R k→w'.heap[k]? = w.heap[k]?)→Q w' O R
 loc {w w' O R} h hs hk :=⟨fun k ho=>Nat.lt_of_lt_of_le (h.1 k ho) hs.2.2.2,h.2.1,fun w2 h2 hk2 =>
  h.2.2 w2 ⟨h2.1.trans hs.1,h2.2.1.trans hs.2.1,h2.2.2.1.trans hs.2.2.1,Nat.le_trans hs.2.2.2 h2.2.2.2⟩ fun k ho=>(hk2 k ho).trans (hk k ho)⟩
 dom h hk:=h.1 _ hk
 dis h hk:=h.2.1 _ hk
def anyA : As:=boxA fun _ _ _=>True
def asIs (w0 : World) (O0 R0 : Nat→Prop) : As where
 p w O R:=(∀ k,O k ↔ O0 k)∧(∀ k,R k ↔ R0 k)∧(∀ k,O0 k→¬ R0 k)∧∀ k,O0 k∨R0 k→k<w.heap.size∧w.heap[k]? = w0.heap[k]?
 loc {w w' O R} h hs hk :=⟨h.1,h.2.1,h.2.2.1,fun k ho=>⟨Nat.lt_of_lt_of_le (h.2.2.2 k ho).1 hs.2.2.2,(hk k (ho.imp (h.1 k).2 (h.2.1 k).2)).trans (h.2.2.2 k ho).2⟩⟩
 dom {w O R k} h hk:=(h.2.2.2 k (hk.imp (h.1 k).1 (h.2.1 k).1)).1
 dis {w O R k} h hk hk':=h.2.2.1 k ((h.1 k).1 hk) ((h.2.1 k).1 hk')
theorem SH.imp (h : SH B w (A::L)) (hi : ∀ O R,A.p w O R→A'.p w O R) : SH B w (A'::L):=h.wk fun O R hA=>⟨O,R,hi O R hA,fun _ h=>h,fun _ h=>.inr h⟩
theorem SH.box {Q : World→(Nat→Prop)→(Nat→Prop)→Prop} (h : SH B w (A::L)) (hq : ∀ w' O R,A.p w' O R→Q w' O R) : SH B w (boxA Q::L) :=
 h.imp fun O R hA=>⟨fun k hk=>A.dom hA hk,fun k hk=>A.dis hA hk,fun w' hs hk=>hq w' O R (A.loc hA hs hk)⟩
theorem boxA_now {Q : World→(Nat→Prop)→(Nat→Prop)→Prop} {O R : Nat→Prop} (h : (boxA Q).p w O R) : Q w O R:=h.2.2 w ⟨rfl,rfl,rfl,Nat.le_refl _⟩ fun _ _=>rfl
theorem SH.unbox {Q : World→(Nat→Prop)→(Nat→Prop)→Prop} (h : SH B w (boxA Q::L)) : ∃ O R,Q w O R∧SH B w (asIs w O R::L):=by
 obtain ⟨hs,O,R,h1,h2⟩:=h
 have hb:=h1 0 _ rfl
 refine ⟨O 0,R 0,boxA_now hb,hs,O,R,fun i a ha=>?_,h2⟩
 cases i with
 | zero =>
  simp only [List.getElem?_cons_zero,Option.some.injEq] at ha; subst ha
  exact ⟨fun _=>Iff.rfl,fun _=>Iff.rfl,hb.2.1,fun k hk=>⟨hb.1 k hk,rfl⟩⟩
 | succ i=>exact h1 (i+1) a ha
theorem SH.back_ {O R : Nat→Prop} (h : SH B w (asIs w O R::L)) (hA : A.p w O R) : SH B w (A::L):=h.imp fun O' R' h'=>by
 have e1 : O'=O:=funext fun k=>propext (h'.1 k)
 have e2 : R'=R:=funext fun k=>propext (h'.2.1 k)
 rw [e1,e2]; exact hA
inductive Fv where
 | nil
 | fn (f : FuncId) (ff fc : List Value)
def Fv.val : Fv→Value
 | .nil=>.nilFunc
 | .fn f ff fc=>.func (.func f) ff.toArray fc.toArray
theorem fv_one (v : Fv) : v.val.oneCell'=true:=by cases v <;> rfl
def CallsV (P : Program) (v : Fv) (args : List Value) (w : World) (R : Ending→World→Prop) : Prop :=
 ∃ (f : FuncId) (ff fc : List Value),v=.fn f ff fc∧Ents P f∧Calls P f (ff ++ args ++ fc).toArray w R
theorem CallsV.mono {v : Fv} {args : List Value} {R R' : Ending→World→Prop} (h : CallsV P v args w R) (hr : ∀ e w',R e w'→R' e w') : CallsV P v args w R':=by
 obtain ⟨f,ff,fc,h1,h2,h3⟩:=h
 exact ⟨f,ff,fc,h1,h2,h3.mono hr⟩
theorem cvI {f : FuncId} {ff fc args : List Value} {R : Ending→World→Prop} (en : Ents P f) (h : Calls P f (ff ++ args ++ fc).toArray w R) : CallsV P (.fn f ff fc) args w R :=⟨f,ff,fc,rfl,en,h⟩
def resW (r : Ct.Result) : List Value:=[.int .i64 r.err,.bool r.found,.int .u64 ((r.value : Nat) : Int),.string r.key,.int .i64 r.count,.int .i64 r.ref,.int .i64 r.trie.root,.bool r.trie.readOnly]
structure Cc where
 kind : Int:=0
 cell : Int:=0
 old : Int:=0
 new : Int:=0
 ld : Fv:=.nil
 tr : Fv:=.nil
 r : Ct.Result:={}
def ccL (c : Cc) : List Value:=[.int .i64 c.kind,.int .i64 c.cell,.int .i64 c.old,.int .i64 c.new,c.ld.val,c.tr.val,.int .i64 c.r.err,.bool c.r.found,.int .u64 ((c.r.value : Nat) : Int),.string c.r.key,.int .i64 c.r.count,.int .i64 c.r.ref,.int .i64 c.r.trie.root,.bool c.r.trie.readOnly]
theorem ccL_one (c : Cc) : (ccL c).all Value.oneCell'=true:=by simp [ccL,fv_one]; simp [Value.oneCell']
def intA (a : Int) : List Value:=[.int .i64 a]
def boolA (b : Bool) : List Value:=[.bool b]
def loadC (c : Int) (v : Fv) : Cc:={ kind:=1,cell:=c,ld:=v }
def casC (c o n : Int) (v : Fv) : Cc:={ kind:=2,cell:=c,old:=o,new:=n,tr:=v }
def doneC (r : Ct.Result) : Cc:={ r:=r }
section
variable {α β : Type}
def CPg (cd : I β→Cc→As) (S : St→As) (B : World) (t : I β) (s : St) (L : List As) (e : Ending) (w' : World) : Prop :=
 ∃ s' t' c,t.head s=(s',t')∧e=.returned (.agg (ccL c).toArray)∧SH B w' (cd t' c::S s'::L)
def cloA (P : Program) (S : St→As) (ok : St→Prop) (cd : I β→Cc→As) (args : α→List Value) (k : α→I β) (v : Fv) : As :=
 boxA fun w O R=>∀ (B : World) (L : List As) (s : St) (a : α),SH B w (asIs w O R::S s::L)→ok s→CallsV P v (args a) w (CPg cd S B (k a) s L)
theorem SH.useC {S : St→As} {ok : St→Prop} {cd : I β→Cc→As} {args : α→List Value} {k : α→I β} {v : Fv} {s : St} (h : SH B w (cloA P S ok cd args k v::S s::L)) (hs : ok s) (a : α) : CallsV P v (args a) w (CPg cd S B (k a) s L):=by
 obtain ⟨O,R,hq,h⟩:=h.unbox
 exact hq B L s a h hs
theorem SH.mkC {S : St→As} {ok : St→Prop} {cd : I β→Cc→As} {args : α→List Value} {k : α→I β} {v : Fv} (l : List As) (h : SH B w (l ++ L))
  (hc : ∀ (B w : World) (L : List As) (s : St) (a : α),SH B w (l ++ S s::L)→ok s→CallsV P v (args a) w (CPg cd S B (k a) s L)) : SH B w (cloA P S ok cd args k v::L) :=
 (SH.is h).box fun w' O R hA B L s a h' hs=>hc B w' L s a (SH.se (h'.back_ hA)) hs
theorem cloA_mono {S : St→As} {ok ok' : St→Prop} {cd cd' : I β→Cc→As} {args : α→List Value} {k : α→I β} {v : Fv} (hcd : ∀ t c w O R,(cd t c).p w O R→(cd' t c).p w O R) (hok : ∀ s,ok' s→ok s)
  {O R : Nat→Prop} (h : (cloA P S ok cd args k v).p w O R) : (cloA P S ok' cd' args k v).p w O R:=by
 refine ⟨h.1,h.2.1,fun w' hs hk B L s a h' ho=>(h.2.2 w' hs hk B L s a h' (hok s ho)).mono ?_⟩
 rintro e w2 ⟨s',t',c,h1,h2,h3⟩
 exact ⟨s',t',c,h1,h2,h3.imp fun O R=>hcd t' c w2 O R⟩
def codeA (P : Program) (S : St→As) (ok : St→Prop) (F : β→Cc→As) : Nat→I β→Cc→As
 | 0,t,c=>match t with
  | .ret b=>F b c
  | .load a _=>ex fun v : Fv=>se [pu (c=loadC a v),anyA]
  | .cas a o x _=>ex fun v : Fv=>se [pu (c=casC a o x v),anyA]
  | _=>pu False
 | n+1,t,c=>match t with
  | .ret b=>F b c
  | .load a k=>ex fun v : Fv=>se [pu (c=loadC a v),cloA P S ok (codeA P S ok F n) intA k v]
  | .cas a o x k=>ex fun v : Fv=>se [pu (c=casC a o x v),cloA P S ok (codeA P S ok F n) boolA k v]
  | _=>pu False
theorem se2_imp {A X X' : As} {O R : Nat→Prop} (h : (se [A,X]).p w O R) (hi : ∀ O R,X.p w O R→X'.p w O R) : (se [A,X']).p w O R:=by
 obtain ⟨Os,Rs,h1,h2,h3,h4⟩:=h
 refine ⟨Os,Rs,fun i a ha=>?_,h2,h3,h4⟩
 match i,ha with
 | 0,ha=>exact h1 0 a ha
 | 1,ha=>injection ha with ha; subst ha; exact hi _ _ (h1 1 X rfl)
 | n+2,ha=>simp at ha
variable {S : St→As} {ok : St→Prop} {F : β→Cc→As}
theorem anyA_of {A : As} {O R : Nat→Prop} (h : A.p w O R) : anyA.p w O R :=⟨fun k hk=>A.dom h hk,fun k hk=>A.dis h hk,fun _ _ _=>trivial⟩
theorem codeA_less1 : ∀ (n : Nat) (t : I β) (c : Cc) (w : World) (O R : Nat→Prop),(codeA P S ok F (n+1) t c).p w O R→(codeA P S ok F n t c).p w O R:=by
 intro n
 induction n with
 | zero =>
  intro t c w O R h
  cases t with
  | load a k=>obtain ⟨v,h⟩:=h; exact ⟨v,se2_imp h fun _ _ h=>anyA_of h⟩
  | cas a o x k=>obtain ⟨v,h⟩:=h; exact ⟨v,se2_imp h fun _ _ h=>anyA_of h⟩
  | _=>exact h
 | succ n ih =>
  intro t c w O R h
  cases t with
  | load a k=>obtain ⟨v,h⟩:=h; exact ⟨v,se2_imp h fun _ _ h=>cloA_mono ih (fun _ h=>h) h⟩
  | cas a o x k=>obtain ⟨v,h⟩:=h; exact ⟨v,se2_imp h fun _ _ h=>cloA_mono ih (fun _ h=>h) h⟩
  | _=>exact h
theorem codeA_less {m n : Nat} (hmn : m≤n) : ∀ (t : I β) (c : Cc) (w : World) (O R : Nat→Prop),(codeA P S ok F n t c).p w O R→(codeA P S ok F m t c).p w O R:=by
 induction hmn with
 | refl=>exact fun _ _ _ _ _ h=>h
 | step _ ih=>exact fun t c w O R h=>ih t c w O R (codeA_less1 _ t c w O R h)
def ltA (P : Program) (S : St→As) (ok : St→Prop) (F : β→Cc→As) (args : α→List Value) (k : α→I β) (v : Fv) : Nat→As
 | 0=>anyA
 | n+1=>cloA P S ok (codeA P S ok F n) args k v
theorem SH.lt_ {n : Nat} {args : α→List Value} {k : α→I β} {v : Fv} (l : List As) (h : SH B w (l ++ L))
  (hc : ∀ m,m<n→∀ (B w : World) (L : List As) (s : St) (x : α),SH B w (l ++ S s::L)→ok s→CallsV P v (args x) w (CPg (codeA P S ok F m) S B (k x) s L)) : SH B w (ltA P S ok F args k v n::L):=by
 cases n with
 | zero=>exact (SH.is h).imp fun _ _ h=>anyA_of h
 | succ m=>exact SH.mkC l h (hc m (Nat.lt_succ_self m))
theorem SH.ld_ {n : Nat} {a : Int} {k : Int→I β} {v : Fv} (h : SH B w (ltA P S ok F intA k v n::L)) : SH B w (codeA P S ok F n (.load a k) (loadC a v)::L):=by
 cases n <;> exact SH.in_ v (SH.is (l:=[_,_]) (SH.ip rfl h))
theorem SH.cs_ {n : Nat} {a o x : Int} {k : Bool→I β} {v : Fv} (h : SH B w (ltA P S ok F boolA k v n::L)) : SH B w (codeA P S ok F n (.cas a o x k) (casC a o x v)::L):=by
 cases n <;> exact SH.in_ v (SH.is (l:=[_,_]) (SH.ip rfl h))
theorem SH.ret_ {n : Nat} {b : β} {c : Cc} (h : SH B w (F b c::L)) : SH B w (codeA P S ok F n (.ret b) c::L):=by
 cases n <;> exact h
end
theorem SH.rbz {b : Nat} {cs : List Value} {t : TypeId} (h : SH B w (bl b cs t::L)) : SH B w (Go.E.rb b cs t::L) :=
 h.wk fun O R hA=>⟨fun _=>False,fun k=>k=b,⟨hA.1,fun _ h=>h,fun _=>Iff.rfl⟩,fun _ h=>h.elim,fun k hk=>.inl ((hA.2.1 k).2 hk)⟩
theorem SH.rbd {b : Nat} {cs : List Value} {t : TypeId} (h : SH B w L) (m : At L (Go.E.rb b cs t)) : SH B w (Go.E.rb b cs t::L) :=
 h.dup m fun O R hA=>⟨R,⟨hA.1,fun _ h=>h,hA.2.2⟩,fun _ h=>h⟩
variable {n : Nat} {K : Post} {e : Tm} {ops : Array Oper} {l : List Oper} {S : World→Prop} {ls : List (Oper × Bool)} {L' : List As}
variable {d : Option Tmp} {ty : TypeId} {ps : String} {af : Array Edge} {g : Option (Nat × Bool)}
def Inv (P : Program) (v : Value) (name : String) (w : World) (f : FuncId) (r : Value) : Prop:=∀ args : Array Value,(callMethod v name args).run P w=.ok (.enter f (#[r] ++ args)) w
theorem ci {x : Operand} {name : String} {f : FuncId} {r v : Value} {as : Array Operand} {ats : Array TypeId} {vs : List Value} (hi : Inv P v name w f r) (hx : ev n e x=some v) (ha : evs n e as.toList=some vs) : Ca P n e ⟨d,.call ⟨.invoke x name,as,ats⟩,ty,ps,af,g⟩ w f (r::vs).toArray:=fun a hf=>by
 have h1 : as.map a.eval=vs.toArray:=hf.evalA ha
 have h2:=hi vs.toArray
 have h3 : (r::vs).toArray = #[r] ++ vs.toArray:=by simp
 have h4 : ∀ u : Value,(#[u] ++ vs.toArray).extract 1 (#[u] ++ vs.toArray).size=vs.toArray:=fun u=>by simp
 rw [h3]
 simp only [execOp,resolve,hf.eval hx,h1,invoke,Sem.run_bind,Sem.run_pure,Result.andThen_ok]
 simp only [show ((#[v] ++ vs.toArray)[0]? : Option Value)=some v by simp,h4]
 exact h2
end Go.E
end
