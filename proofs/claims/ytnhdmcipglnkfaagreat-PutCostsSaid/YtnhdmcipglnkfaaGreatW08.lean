/- Parts of a proof: C1, Zy. -/
import Derived.Test.YtnhdmcipglnkfaaGreatW07
import Derived.Test.YtnhdmcipglnkfaaGreatW05
import Derived.Test.YtnhdmcipglnkfaaGreatW06
set_option linter.unusedVariables false
set_option linter.unusedSimpArgs false
set_option maxRecDepth 100000
set_option maxHeartbeats 4000000
section
namespace Go.Ct
def I.head{α:Type}:I α->St->St×I α
 |.ret a,s=>(s,.ret a)
 |.load c k,s=>(s,.load c k)
 |.cH c o n k,s=>(s,.cH c o n k)
 |.alloc n i k,s=>(k (s.alloc n i).2).head (s.alloc n i).1
 |.cell i k,s=>(k (s.aT i).2).head (s.aT i).1
 |.gen k,s=>(k s.bL.2).head s.bL.1
 |.node r k,s=>(k (s.node r)).head s
variable{α:Type}{s:St}{R:St×I α}
theorem qN{r:Int}{k:Node->I α}(h:(k (s.node r)).head s=R):(I.node r k).head s=R:=h
theorem qA{n:Node}{i:Int}{k:Int->I α}(h:(k (s.alloc n i).2).head (s.alloc n i).1=R):(I.alloc n i k).head s=R:=h
theorem qC{i:Int}{k:Int->I α}(h:(k (s.aT i).2).head (s.aT i).1=R):(I.cell i k).head s=R:=h
theorem qG{k:Int->I α}(h:(k s.bL.2).head s.bL.1=R):(I.gen k).head s=R:=h
theorem qT{c:Bool}{a b:I α}(hc:c=true)(h:a.head s=R):(bif c then a else b).head s=R:=by rw[hc];exact h
theorem qF{c:Bool}{a b:I α}(hc:c=false)(h:b.head s=R):(bif c then a else b).head s=R:=by rw[hc];exact h
end Go.Ct
namespace Go.E
open Go.Ct (I St)
variable{B w:World}{L:List As}{A A':As}{P:Program}
def gG(Q:World->(Nat->Prop)->(Nat->Prop)->Prop):As where
 p w O R:=(∀k,O k\/R k->k<w.heap.size)/\(∀k,O k->¬R k)/\∀w':World,(w'.os=w.os/\w'.tape=w.tape/\w'.output=w.output/\w.heap.size<=w'.heap.size)->(∀k,O k\/R k->w'.heap[k]?=w.heap[k]?)->Q w' O R
 loc {w w' O R} h hs hk:=⟨λk ho=>Lz (h.1 k ho) hs.2.2.2,h.2.1,λw2 h2 hk2=>
  h.2.2 w2 ⟨h2.1.trans hs.1,h2.2.1.trans hs.2.1,h2.2.2.1.trans hs.2.2.1,kR hs.2.2.2 h2.2.2.2⟩ λk ho=>(hk2 k ho).trans (hk k ho)⟩
 DC h hk:=h.1 _ hk
 DZ h hk:=h.2.1 _ hk
def G4:As:=gG λ_ _ _=>True
def aD0(w0:World)(O0 R0:Nat->Prop):As where
 p w O R:=(∀k,O k↔O0 k)/\(∀k,R k↔R0 k)/\(∀k,O0 k->¬R0 k)/\∀k,O0 k\/R0 k->k<w.heap.size/\w.heap[k]?=w0.heap[k]?
 loc {w w' O R} h hs hk:=⟨h.1,h.2.1,h.2.2.1,λk ho=>⟨Lz (h.2.2.2 k ho).1 hs.2.2.2,(hk k (ho.imp (h.1 k).2 (h.2.1 k).2)).trans (h.2.2.2 k ho).2⟩⟩
 DC {w O R k} h hk:=(h.2.2.2 k (hk.imp (h.1 k).1 (h.2.1 k).1)).1
 DZ {w O R k} h hk S4:=h.2.2.1 k ((h.1 k).1 hk) ((h.2.1 k).1 S4)
theorem SH.imp(h:SH B w (A::L))(hi:∀O R,A.p w O R->A'.p w O R):SH B w (A'::L):=h.wk λO R hA=>⟨O,R,hi O R hA,λ_ h=>h,λ_ h=>.inr h⟩
theorem SH.box{Q:World->(Nat->Prop)->(Nat->Prop)->Prop}(h:SH B w (A::L))(hq:∀w' O R,A.p w' O R->Q w' O R):SH B w (gG Q::L):=
 h.imp λO R hA=>⟨λk hk=>A.DC hA hk,λk hk=>A.DZ hA hk,λw' hs hk=>hq w' O R (A.loc hA hs hk)⟩
theorem l8{Q:World->(Nat->Prop)->(Nat->Prop)->Prop}{O R:Nat->Prop}(h:(gG Q).p w O R):Q w O R:=h.2.2 w ⟨rfl,rfl,rfl,aW _⟩ λ_ _=>rfl
theorem SH.aHu{Q:World->(Nat->Prop)->(Nat->Prop)->Prop}(h:SH B w (gG Q::L)):∃O R,Q w O R/\SH B w (aD0 w O R::L):=by
 obtain⟨hs,O,R,h1,h2⟩:=h
 have hb:=h1 0 _ rfl
 refine⟨O 0,R 0,l8 hb,hs,O,R,λi a ha=>?_,h2⟩
 cases i with
 |zero=>
  simp only[NK,Bs]at ha;subst ha
  exact⟨λ_=>Iff.rfl,λ_=>Iff.rfl,hb.2.1,λk hk=>⟨hb.1 k hk,rfl⟩⟩
 |succ i=>exact h1 (i+1) a ha
theorem SH.aJm{O R:Nat->Prop}(h:SH B w (aD0 w O R::L))(hA:A.p w O R):SH B w (A::L):=h.imp λO' R' h'=>by
 have e1:O'=O:=funext λk=>propext (h'.1 k)
 have e2:R'=R:=funext λk=>propext (h'.2.1 k)
 rw[e1,e2];exact hA
inductive Fv where
 |nil
 |fn (f:FuncId) (ff fc:List Value)
def Fv.val:Fv->Value
 |.nil=>.nilFunc
 |.fn f ff fc=>.func (.func f) ff.toArray fc.toArray
theorem aD1(v:Fv):v.val.oneCell'=true:=by cases v<;>rfl
def lS(P:Program)(v:Fv)(args:List Value)(w:World)(R:Ending->World->Prop):Prop:=
 ∃(f:FuncId) (ff fc:List Value),v=.fn f ff fc/\nH P f/\Calls P f (ff++args++fc).toArray w R
theorem lS.mono{v:Fv}{args:List Value}{R R':Ending->World->Prop}(h:lS P v args w R)(hr:∀e w',R e w'->R' e w'):lS P v args w R':=by
 obtain⟨f,ff,fc,h1,h2,h3⟩:=h
 exact⟨f,ff,fc,h1,h2,h3.mono hr⟩
theorem Bt{f:FuncId}{ff fc args:List Value}{R:Ending->World->Prop}(en:nH P f)(h:Calls P f (ff++args++fc).toArray w R):lS P (.fn f ff fc) args w R:=⟨f,ff,fc,rfl,en,h⟩
def B5(r:Ct.Result):List Value:=[.int .i64 r.err,.bool r.found,.int .u64 (r.value:Int),.string r.key,.int .i64 r.count,.int .i64 r.ref,.int .i64 r.aF.root,.bool r.aF.readOnly]
structure Cc where
 kind:Int:=0
 cell:Int:=0
 dO:Int:=0
 new:Int:=0
 ld:Fv:=.nil
 tr:Fv:=.nil
 r:Ct.Result:={}
def Cm(c:Cc):List Value:=[.int .i64 c.kind,.int .i64 c.cell,.int .i64 c.dO,.int .i64 c.new,c.ld.val,c.tr.val,.int .i64 c.r.err,.bool c.r.found,.int .u64 (c.r.value:Int),.string c.r.key,.int .i64 c.r.count,.int .i64 c.r.ref,.int .i64 c.r.aF.root,.bool c.r.aF.readOnly]
theorem kF(c:Cc):(Cm c).all Value.oneCell'=true:=by simp[Cm,aD1];simp[Value.oneCell']
def eM(a:Int):List Value:=[.int .i64 a]
def iC(b:Bool):List Value:=[.bool b]
def sF(c:Int)(v:Fv):Cc:={kind:=1,cell:=c,ld:=v}
def Bo(c o n:Int)(v:Fv):Cc:={kind:=2,cell:=c,dO:=o,new:=n,tr:=v}
def TI(r:Ct.Result):Cc:={r:=r}
section
variable{α β:Type}
def CPg(cd:I β->Cc->As)(S:St->As)(B:World)(t:I β)(s:St)(L:List As)(e:Ending)(w':World):Prop:=
 ∃s' t' c,t.head s=(s',t')/\e=.returned (.agg (Cm c).toArray)/\SH B w' (cd t' c::S s'::L)
def fE(P:Program)(S:St->As)(ok:St->Prop)(cd:I β->Cc->As)(args:α->List Value)(k:α->I β)(v:Fv):As:=
 gG λw O R=>∀(B:World) (L:List As) (s:St) (a:α),SH B w (aD0 w O R::S s::L)->ok s->lS P v (args a) w (CPg cd S B (k a) s L)
theorem SH.X7{S:St->As}{ok:St->Prop}{cd:I β->Cc->As}{args:α->List Value}{k:α->I β}{v:Fv}{s:St}(h:SH B w (fE P S ok cd args k v::S s::L))(hs:ok s)(a:α):lS P v (args a) w (CPg cd S B (k a) s L):=by
 obtain⟨O,R,hq,h⟩:=h.aHu
 exact hq B L s a h hs
theorem SH.mkC{S:St->As}{ok:St->Prop}{cd:I β->Cc->As}{args:α->List Value}{k:α->I β}{v:Fv}(l:List As)(h:SH B w (l++L))
  (hc:∀(B w:World) (L:List As) (s:St) (a:α),SH B w (l++S s::L)->ok s->lS P v (args a) w (CPg cd S B (k a) s L)):SH B w (fE P S ok cd args k v::L):=
 (SH.is h).box λw' O R hA B L s a h' hs=>hc B w' L s a (SH.se (h'.aJm hA)) hs
theorem Jn{S:St->As}{ok ok':St->Prop}{cd cd':I β->Cc->As}{args:α->List Value}{k:α->I β}{v:Fv}(hcd:∀t c w O R,(cd t c).p w O R->(cd' t c).p w O R)(Tr:∀s,ok' s->ok s)
  {O R:Nat->Prop} (h:(fE P S ok cd args k v).p w O R):(fE P S ok' cd' args k v).p w O R:=by
 refine⟨h.1,h.2.1,λw' hs hk B L s a h' ho=>(h.2.2 w' hs hk B L s a h' (Tr s ho)).mono ?_⟩
 rintro e w2 ⟨s',t',c,h1,h2,h3⟩
 exact⟨s',t',c,h1,h2,h3.imp λO R=>hcd t' c w2 O R⟩
def cZ(P:Program)(S:St->As)(ok:St->Prop)(F:β->Cc->As):Nat->I β->Cc->As
 |0,t,c=>match t with
  |.ret b=>F b c
  |.load a _=>ex λv:Fv=>se [pu (c=sF a v),G4]
  |.cH a o x _=>ex λv:Fv=>se [pu (c=Bo a o x v),G4]
  |_=>pu False
 |n+1,t,c=>match t with
  |.ret b=>F b c
  |.load a k=>ex λv:Fv=>se [pu (c=sF a v),fE P S ok (cZ P S ok F n) eM k v]
  |.cH a o x k=>ex λv:Fv=>se [pu (c=Bo a o x v),fE P S ok (cZ P S ok F n) iC k v]
  |_=>pu False
theorem Nc{A X X':As}{O R:Nat->Prop}(h:(se [A,X]).p w O R)(hi:∀O R,X.p w O R->X'.p w O R):(se [A,X']).p w O R:=by
 obtain⟨Os,Rs,h1,h2,h3,h4⟩:=h
 refine⟨Os,Rs,λi a ha=>?_,h2,h3,h4⟩
 match i,ha with
 |0,ha=>exact h1 0 a ha
 |1,ha=>injection ha with ha;subst ha;exact hi _ _ (h1 1 X rfl)
 |n+2,ha=>simp at ha
variable{S:St->As}{ok:St->Prop}{F:β->Cc->As}
theorem Gr{A:As}{O R:Nat->Prop}(h:A.p w O R):G4.p w O R:=⟨λk hk=>A.DC h hk,λk hk=>A.DZ h hk,λ_ _ _=>trivial⟩
theorem IK:∀(n:Nat) (t:I β) (c:Cc) (w:World) (O R:Nat->Prop),(cZ P S ok F (n+1) t c).p w O R->(cZ P S ok F n t c).p w O R:=by
 intro n
 induction n with
 |zero=>
  intro t c w O R h
  cases t with
  |load a k=>obtain⟨v,h⟩:=h;exact⟨v,Nc h λ_ _ h=>Gr h⟩
  |cH a o x k=>obtain⟨v,h⟩:=h;exact⟨v,Nc h λ_ _ h=>Gr h⟩
  |_=>exact h
 |succ n ih=>
  intro t c w O R h
  cases t with
  |load a k=>obtain⟨v,h⟩:=h;exact⟨v,Nc h λ_ _ h=>Jn ih (λ_ h=>h) h⟩
  |cH a o x k=>obtain⟨v,h⟩:=h;exact⟨v,Nc h λ_ _ h=>Jn ih (λ_ h=>h) h⟩
  |_=>exact h
theorem MU{m n:Nat}(hmn:m<=n):∀(t:I β) (c:Cc) (w:World) (O R:Nat->Prop),(cZ P S ok F n t c).p w O R->(cZ P S ok F m t c).p w O R:=by
 induction hmn with
 |refl=>exact λ_ _ _ _ _ h=>h
 |step _ ih=>exact λt c w O R h=>ih t c w O R (IK _ t c w O R h)
def ltA(P:Program)(S:St->As)(ok:St->Prop)(F:β->Cc->As)(args:α->List Value)(k:α->I β)(v:Fv):Nat->As
 |0=>G4
 |n+1=>fE P S ok (cZ P S ok F n) args k v
theorem SH.lt_{n:Nat}{args:α->List Value}{k:α->I β}{v:Fv}(l:List As)(h:SH B w (l++L))
  (hc:∀m,m<n->∀(B w:World) (L:List As) (s:St) (x:α),SH B w (l++S s::L)->ok s->lS P v (args x) w (CPg (cZ P S ok F m) S B (k x) s L)):SH B w (ltA P S ok F args k v n::L):=by
 cases n with
 |zero=>exact(SH.is h).imp λ_ _ h=>Gr h
 |succ m=>exact SH.mkC l h (hc m (PO m))
theorem SH.ld_{n:Nat}{a:Int}{k:Int->I β}{v:Fv}(h:SH B w (ltA P S ok F eM k v n::L)):SH B w (cZ P S ok F n (.load a k) (sF a v)::L):=by
 cases n<;>exact SH.bX v (SH.is (l:=[_,_]) (SH.ip rfl h))
theorem SH.cs_{n:Nat}{a o x:Int}{k:Bool->I β}{v:Fv}(h:SH B w (ltA P S ok F iC k v n::L)):SH B w (cZ P S ok F n (.cH a o x k) (Bo a o x v)::L):=by
 cases n<;>exact SH.bX v (SH.is (l:=[_,_]) (SH.ip rfl h))
theorem SH.aNd{n:Nat}{b:β}{c:Cc}(h:SH B w (F b c::L)):SH B w (cZ P S ok F n (.ret b) c::L):=by
 cases n<;>exact h
end
theorem SH.tH{b:Nat}{cs:List Value}{t:TypeId}(h:SH B w (bl b cs t::L)):SH B w (Go.E.rb b cs t::L):=
 h.wk λO R hA=>⟨λ_=>False,λk=>k=b,⟨hA.1,λ_ h=>h,λ_=>Iff.rfl⟩,λ_ h=>h.elim,λk hk=>.inl ((hA.2.1 k).2 hk)⟩
theorem SH.jF{b:Nat}{cs:List Value}{t:TypeId}(h:SH B w L)(m:At L (Go.E.rb b cs t)):SH B w (Go.E.rb b cs t::L):=
 h.dup m λO R hA=>⟨R,⟨hA.1,λ_ h=>h,hA.2.2⟩,λ_ h=>h⟩
variable{n:Nat}{K:kG}{e:Tm}{ops:Array Oper}{l:List Oper}{S:World->Prop}{ls:List (Oper×Bool)}{L':List As}
variable{d:Option Tmp}{ty:TypeId}{ps:String}{af:Array Edge}{g:Option (Nat×Bool)}
def Inv(P:Program)(v:Value)(name:String)(w:World)(f:FuncId)(r:Value):Prop:=∀args:Array Value,(callMethod v name args).run P w=.ok (.enter f (#[r]++args)) w
theorem ci{x:Operand}{name:String}{f:FuncId}{r v:Value}{as9:Array Operand}{ats:Array TypeId}{vs:List Value}(hi:Inv P v name w f r)(hx:ev n e x=some v)(ha:uU n e as9.toList=some vs):Ca P n e ⟨d,.call ⟨.invoke x name,as9,ats⟩,ty,ps,af,g⟩ w f (r::vs).toArray:=λa hf=>by
 have h1:as9.map a.eval=vs.toArray:=hf.EU ha
 have h2:=hi vs.toArray
 have h3:(r::vs).toArray=#[r]++vs.toArray:=by simp
 have h4:∀u:Value,(#[u]++vs.toArray).extract 1 (#[u]++vs.toArray).size=vs.toArray:=λu=>by simp
 rw[h3]
 simp only[execOp,resolve,hf.eval hx,h1,invoke,Sem.run_bind,Sem.run_pure,Result.andThen_ok]
 simp only[show ((#[v]++vs.toArray)[0]?:Option Value)=some v by simp,h4]
 exact h2
end Go.E
end
section
namespace Go.Q9
open Go.Proofs.Tryz
open Go.E
instance:Qg prog 53 [.int .i64 0,.int .i64 0,.int .i64 0,.int .u64 0,.slice none 0 0,.int .u64 0,.string .empty,.int .u64 0,.slice none 0 0,.int .i64 0,.int .i64 0,.int .i64 0,.int .i64 0,.int .i64 0] [(0,1),(1,1),(2,1),(3,1),(4,1),(5,1),(6,1),(7,1),(8,1),(9,1),(10,1),(11,1),(12,1),(13,1)]:=⟨by kernel_rfl⟩
instance:Fo prog 42 0 0:=⟨by kernel_rfl⟩
instance:Fo prog 42 1 1:=⟨by kernel_rfl⟩
instance:Fo prog 42 2 2:=⟨by kernel_rfl⟩
instance:Fo prog 75 0 0:=⟨by kernel_rfl⟩
instance:Fo prog 75 1 3:=⟨by kernel_rfl⟩
instance:Fo prog 53 0 0:=⟨by kernel_rfl⟩
instance:Fo prog 53 13 13:=⟨by kernel_rfl⟩
instance:Fo prog 53 2 2:=⟨by kernel_rfl⟩
instance:Fo prog 53 4 4:=⟨by kernel_rfl⟩
instance:Fo prog 53 8 8:=⟨by kernel_rfl⟩
instance:Fo prog 53 9 9:=⟨by kernel_rfl⟩
instance:One prog 3:=⟨by kernel_rfl⟩
instance:One prog 44:=⟨by kernel_rfl⟩
instance:One prog 51:=⟨by kernel_rfl⟩
instance:One prog 39:=⟨by kernel_rfl⟩
instance:One prog 40:=⟨by kernel_rfl⟩
instance:Row prog 53 14:=⟨by kernel_rfl⟩
instance:gB prog 51 120:=⟨by kernel_rfl⟩
instance:gB prog 39 53:=⟨by kernel_rfl⟩
instance:gB prog 40 44:=⟨by kernel_rfl⟩
instance:Ss prog 120 (.agg [.string .empty,.int .u64 0].toArray) 2 24:=⟨by kernel_rfl⟩
instance:Ss prog 44 (.int .i64 0) 1 8:=⟨by kernel_rfl⟩
instance:Ss prog 53 (.agg [.int .i64 0,.int .i64 0,.int .i64 0,.int .u64 0,.slice none 0 0,.int .u64 0,.string .empty,.int .u64 0,.slice none 0 0,.int .i64 0,.int .i64 0,.int .i64 0,.int .i64 0,.int .i64 0].toArray) 14 152:=⟨by kernel_rfl⟩
instance:Sz prog 3 1:=⟨by kernel_rfl⟩
instance:Sz prog 33 1:=⟨by kernel_rfl⟩
instance:Sz prog 44 1:=⟨by kernel_rfl⟩
instance:Sz prog 51 1:=⟨by kernel_rfl⟩
instance:Sz prog 39 1:=⟨by kernel_rfl⟩
instance:Sz prog 40 1:=⟨by kernel_rfl⟩
instance:Sz prog 53 14:=⟨by kernel_rfl⟩
instance:Zc prog 53 [.int .i64 0,.int .i64 0,.int .i64 0,.int .u64 0,.slice none 0 0,.int .u64 0,.string .empty,.int .u64 0,.slice none 0 0,.int .i64 0,.int .i64 0,.int .i64 0,.int .i64 0,.int .i64 0]:=⟨by kernel_rfl⟩
instance:Qg prog 90 [.int .i64 0,.int .i64 0,.int .i64 0,.int .i64 0] [(0,1),(1,1),(2,1),(3,1)]:=⟨by kernel_rfl⟩
instance:Fo prog 135 0 0:=⟨by kernel_rfl⟩
instance:Fo prog 135 10 34:=⟨by kernel_rfl⟩
instance:Fo prog 135 11 35:=⟨by kernel_rfl⟩
instance:Fo prog 135 12 36:=⟨by kernel_rfl⟩
instance:Fo prog 135 2 26:=⟨by kernel_rfl⟩
instance:Fo prog 135 3 27:=⟨by kernel_rfl⟩
instance:Fo prog 135 4 28:=⟨by kernel_rfl⟩
instance:Fo prog 135 5 29:=⟨by kernel_rfl⟩
instance:Fo prog 135 6 30:=⟨by kernel_rfl⟩
instance:Fo prog 135 7 31:=⟨by kernel_rfl⟩
instance:Fo prog 135 8 32:=⟨by kernel_rfl⟩
instance:Fo prog 135 9 33:=⟨by kernel_rfl⟩
instance:One prog 133:=⟨by kernel_rfl⟩
instance:One prog 22:=⟨by kernel_rfl⟩
instance:One prog 27:=⟨by kernel_rfl⟩
instance:One prog 33:=⟨by kernel_rfl⟩
instance:One prog 4:=⟨by kernel_rfl⟩
instance:Row prog 90 4:=⟨by kernel_rfl⟩
instance:gB prog 133 33:=⟨by kernel_rfl⟩
instance:gB prog 22 3:=⟨by kernel_rfl⟩
instance:Ss prog 3 (.int .i64 0) 1 8:=⟨by kernel_rfl⟩
instance:Ss prog 33 (.int .i64 0) 1 8:=⟨by kernel_rfl⟩
instance:Sz prog 90 4:=⟨by kernel_rfl⟩
instance:Sz prog 133 1:=⟨by kernel_rfl⟩
instance:Sz prog 22 1:=⟨by kernel_rfl⟩
instance:Sz prog 4 1:=⟨by kernel_rfl⟩
instance:Fo prog 35 0 0:=⟨by kernel_rfl⟩
instance:KO prog 53 0 0:=⟨by kernel_rfl⟩
instance:KO prog 53 10 10:=⟨by kernel_rfl⟩
instance:KO prog 53 12 12:=⟨by kernel_rfl⟩
instance:KO prog 53 13 13:=⟨by kernel_rfl⟩
instance:Fo prog 35 1 1:=⟨by kernel_rfl⟩
instance:KO prog 53 1 1:=⟨by kernel_rfl⟩
instance:KO prog 53 11 11:=⟨by kernel_rfl⟩
instance:KO prog 53 2 2:=⟨by kernel_rfl⟩
instance:KO prog 53 9 9:=⟨by kernel_rfl⟩
instance:Row prog 35 2:=⟨by kernel_rfl⟩
instance:Qg prog 120 [.string .empty,.int .u64 0] [(0,1),(1,1)]:=⟨by kernel_rfl⟩
instance:Fo prog 120 0 0:=⟨by kernel_rfl⟩
instance:Fo prog 120 1 1:=⟨by kernel_rfl⟩
instance:One prog 28:=⟨by kernel_rfl⟩
instance:One prog 9:=⟨by kernel_rfl⟩
instance:Row prog 120 2:=⟨by kernel_rfl⟩
instance:Sz prog 120 2:=⟨by kernel_rfl⟩
instance:Fo prog 53 1 1:=⟨by kernel_rfl⟩
instance:Fo prog 53 10 10:=⟨by kernel_rfl⟩
instance:Fo prog 53 11 11:=⟨by kernel_rfl⟩
instance:Fo prog 53 12 12:=⟨by kernel_rfl⟩
instance:Fo prog 53 3 3:=⟨by kernel_rfl⟩
instance:Fo prog 53 5 5:=⟨by kernel_rfl⟩
instance:Fo prog 53 6 6:=⟨by kernel_rfl⟩
instance:Fo prog 53 7 7:=⟨by kernel_rfl⟩
instance:Sz prog 28 1:=⟨by kernel_rfl⟩
instance:Qg prog 49 [.int .i64 0,↑false,.int .u64 0,.string .empty,.int .i64 0,.int .i64 0,.int .i64 0,↑false] [(0,1),(1,1),(2,1),(3,1),(4,1),(5,1),(6,2)]:=⟨by kernel_rfl⟩
instance:Fo prog 135 1 1:=⟨by kernel_rfl⟩
instance:Fo prog 49 4 4:=⟨by kernel_rfl⟩
instance:Fo prog 60 1 1:=⟨by kernel_rfl⟩
instance:Fo prog 60 10 11:=⟨by kernel_rfl⟩
instance:Fo prog 60 11 12:=⟨by kernel_rfl⟩
instance:Fo prog 60 7 8:=⟨by kernel_rfl⟩
instance:Fo prog 60 8 9:=⟨by kernel_rfl⟩
instance:Row prog 49 8:=⟨by kernel_rfl⟩
instance:Sz prog 35 2:=⟨by kernel_rfl⟩
instance:Sz prog 49 8:=⟨by kernel_rfl⟩
instance:Zc prog 35 [.int .i64 0,↑false]:=⟨by kernel_rfl⟩
instance:Zc prog 49 [.int .i64 0,↑false,.int .u64 0,.string .empty,.int .i64 0,.int .i64 0,.int .i64 0,↑false]:=⟨by kernel_rfl⟩
instance:Fo prog 60 9 10:=⟨by kernel_rfl⟩
instance:KO prog 53 6 6:=⟨by kernel_rfl⟩
instance:KO prog 53 7 7:=⟨by kernel_rfl⟩
instance:Fo prog 60 12 13:=⟨by kernel_rfl⟩
instance:Qg prog 35 [.int .i64 0,↑false] [(0,1),(1,1)]:=⟨by kernel_rfl⟩
instance:Qg prog 211 [.int .i64 0,.int .i64 0] [(0,1),(1,1)]:=⟨by kernel_rfl⟩
instance:Qg prog 58 [↑false,.slice none 0 0,.slice none 0 0] [(0,1),(1,1),(2,1)]:=⟨by kernel_rfl⟩
instance:Fo prog 211 0 0:=⟨by kernel_rfl⟩
instance:Fo prog 211 1 1:=⟨by kernel_rfl⟩
instance:Fo prog 58 0 0:=⟨by kernel_rfl⟩
instance:Fo prog 58 1 1:=⟨by kernel_rfl⟩
instance:Fo prog 58 2 2:=⟨by kernel_rfl⟩
instance:One prog 56:=⟨by kernel_rfl⟩
instance:Row prog 211 2:=⟨by kernel_rfl⟩
instance:Row prog 58 3:=⟨by kernel_rfl⟩
instance:gB prog 56 211:=⟨by kernel_rfl⟩
instance:Ss prog 211 (.agg [.int .i64 0,.int .i64 0].toArray) 2 16:=⟨by kernel_rfl⟩
instance:Sz prog 211 2:=⟨by kernel_rfl⟩
instance:Sz prog 56 1:=⟨by kernel_rfl⟩
instance:Sz prog 58 3:=⟨by kernel_rfl⟩
instance:Zc prog 120 [.string .empty,.int .u64 0]:=⟨by kernel_rfl⟩
instance:Zc prog 211 [.int .i64 0,.int .i64 0]:=⟨by kernel_rfl⟩
instance:Zc prog 58 [↑false,.slice none 0 0,.slice none 0 0]:=⟨by kernel_rfl⟩
instance:Fo prog 135 13 40:=⟨by kernel_rfl⟩
instance:Fo prog 135 14 41:=⟨by kernel_rfl⟩
instance:Fo prog 60 0 0:=⟨by kernel_rfl⟩
instance:Row prog 60 25:=⟨by kernel_rfl⟩
instance:Sz prog 60 25:=⟨by kernel_rfl⟩
instance:Zc prog 60 [.int .i64 0,.int .i64 0,↑false,.int .i64 0,.int .i64 0,.int .i64 0,.int .i64 0,.int .u64 0,.int .u64 0,.string .empty,.int .u64 0,.int .u64 0,.int .i64 0,↑false,↑false,.slice none 0 0,.slice none 0 0,.int .i64 0,↑false,.int .u64 0,.string .empty,.int .i64 0,.int .i64 0,.int .i64 0,↑false]:=⟨by kernel_rfl⟩
instance:Zc prog 90 [.int .i64 0,.int .i64 0,.int .i64 0,.int .i64 0]:=⟨by kernel_rfl⟩
instance:Qg prog 112 [.slice none 0 0,.int .i64 0] [(0,1),(1,1)]:=⟨by kernel_rfl⟩
instance:Fo prog 112 0 0:=⟨by kernel_rfl⟩
instance:Fo prog 112 1 1:=⟨by kernel_rfl⟩
instance:Qg prog 135 [.pointer none,.int .i64 0,.int .i64 0,↑false,.int .i64 0,.int .i64 0,.int .i64 0,.int .i64 0,.int .u64 0,.int .u64 0,.string .empty,.int .u64 0,.int .u64 0,.int .i64 0,↑false,↑false,.slice none 0 0,.slice none 0 0,.int .i64 0,↑false,.int .u64 0,.string .empty,.int .i64 0,.int .i64 0,.int .i64 0,↑false,.slice none 0 0,.slice none 0 0,.slice none 0 0,.slice none 0 0,.int .i64 0,.int .i64 0,.int .i64 0,.int .i64 0,.int .i64 0,↑false,.int .i64 0,.int .i64 0,.int .i64 0,.int .i64 0,↑false,.int .i64 0,↑false,.int .u64 0,.string .empty,.int .i64 0,.int .i64 0,.int .i64 0,↑false,↑false,.slice none 0 0,.slice none 0 0] [(0,1),(1,25),(26,1),(27,1),(28,1),(29,1),(30,1),(31,1),(32,1),(33,1),(34,1),(35,1),(36,4),(40,1),(41,8),(49,3)]:=⟨by kernel_rfl⟩
instance:Qg prog 42 [.slice none 0 0,.slice none 0 0,.int .i64 0] [(0,1),(1,1),(2,1)]:=⟨by kernel_rfl⟩
instance:Qg prog 75 [.slice none 0 0,.slice none 0 0,.int .i64 0,.int .i64 0] [(0,3),(3,1)]:=⟨by kernel_rfl⟩
instance:gB prog 127 28:=⟨by kernel_rfl⟩
instance:gB prog 149 9:=⟨by kernel_rfl⟩
instance:Ss prog 28 (.int .u64 0) 1 8:=⟨by kernel_rfl⟩
instance:Ss prog 9 (.string .empty) 1 16:=⟨by kernel_rfl⟩
instance:Sz prog 9 1:=⟨by kernel_rfl⟩
instance:Qg prog 60 [.int .i64 0,.int .i64 0,↑false,.int .i64 0,.int .i64 0,.int .i64 0,.int .i64 0,.int .u64 0,.int .u64 0,.string .empty,.int .u64 0,.int .u64 0,.int .i64 0,↑false,↑false,.slice none 0 0,.slice none 0 0,.int .i64 0,↑false,.int .u64 0,.string .empty,.int .i64 0,.int .i64 0,.int .i64 0,↑false] [(0,1),(1,2),(3,1),(4,1),(5,1),(6,1),(7,1),(8,1),(9,1),(10,1),(11,1),(12,1),(13,1),(14,3),(17,8)]:=⟨by kernel_rfl⟩
instance:Fo prog 32 1 1:=⟨by kernel_rfl⟩
instance:Fo prog 32 2 2:=⟨by kernel_rfl⟩
instance:One prog 29:=⟨by kernel_rfl⟩
instance:gB prog 29 35:=⟨by kernel_rfl⟩
instance:Fo prog 32 3 3:=⟨by kernel_rfl⟩
instance:Fo prog 49 6 6:=⟨by kernel_rfl⟩
instance:One prog 30:=⟨by kernel_rfl⟩
instance:gB prog 30 81:=⟨by kernel_rfl⟩
instance:Ss prog 35 (.agg [.int .i64 0,↑false].toArray) 2 16:=⟨by kernel_rfl⟩
instance:Ss prog 81 (.pointer none) 1 8:=⟨by kernel_rfl⟩
instance:Sz prog 29 1:=⟨by kernel_rfl⟩
instance:Sz prog 30 1:=⟨by kernel_rfl⟩
instance:Fo prog 32 0 0:=⟨by kernel_rfl⟩
instance:Qg prog 32 [.pointer none,.int .u64 0,.slice none 0 0,.slice none 0 0] [(0,1),(1,1),(2,1),(3,1)]:=⟨by kernel_rfl⟩
instance:One prog 81:=⟨by kernel_rfl⟩
instance:Sz prog 81 1:=⟨by kernel_rfl⟩
instance:Fo prog 105 0 0:=⟨by kernel_rfl⟩
instance:Fo prog 105 1 1:=⟨by kernel_rfl⟩
instance:Fo prog 105 2 2:=⟨by kernel_rfl⟩
instance:Fo prog 105 3 3:=⟨by kernel_rfl⟩
instance:gB prog 123 4:=⟨by kernel_rfl⟩
instance:Ss prog 4 (.bool false) 1 1:=⟨by kernel_rfl⟩
instance:Qg prog 105 [.slice none 0 0,.slice none 0 0,.int .i64 0,.int .i64 0] [(0,1),(1,1),(2,1),(3,1)]:=⟨by kernel_rfl⟩
instance:Row prog 42 3:=⟨by kernel_rfl⟩
instance:Sz prog 42 3:=⟨by kernel_rfl⟩
instance:Zc prog 42 [.slice none 0 0,.slice none 0 0,.int .i64 0]:=⟨by kernel_rfl⟩
instance:Qg prog 70 [.int .i64 0,.int .i64 0,.int .i64 0,.int .i64 0,.slice none 0 0] [(0,1),(1,1),(2,1),(3,1),(4,1)]:=⟨by kernel_rfl⟩
instance:Fo prog 70 0 0:=⟨by kernel_rfl⟩
instance:Fo prog 70 1 1:=⟨by kernel_rfl⟩
instance:Fo prog 70 3 3:=⟨by kernel_rfl⟩
instance:Row prog 70 5:=⟨by kernel_rfl⟩
instance:gB prog 66 70:=⟨by kernel_rfl⟩
instance:Ss prog 70 (.agg [.int .i64 0,.int .i64 0,.int .i64 0,.int .i64 0,.slice none 0 0].toArray) 5 56:=⟨by kernel_rfl⟩
instance:Qg prog 94 [.int .i64 0,.int .i64 0,.int .i64 0,.int .i64 0,.nilFunc,.nilFunc,.int .i64 0,↑false,.int .u64 0,.string .empty,.int .i64 0,.int .i64 0,.int .i64 0,↑false] [(0,4),(4,1),(5,1),(6,8)]:=⟨by kernel_rfl⟩
instance:Fo prog 87 0 0:=⟨by kernel_rfl⟩
instance:Fo prog 87 1 1:=⟨by kernel_rfl⟩
instance:One prog 85:=⟨by kernel_rfl⟩
instance:One prog 91:=⟨by kernel_rfl⟩
instance:One prog 92:=⟨by kernel_rfl⟩
instance:One prog 100:=⟨by kernel_rfl⟩
instance:Row prog 87 3:=⟨by kernel_rfl⟩
instance:Row prog 94 14:=⟨by kernel_rfl⟩
instance:Sz prog 92 1:=⟨by kernel_rfl⟩
instance:Sz prog 94 14:=⟨by kernel_rfl⟩
instance:Zc prog 92 [.nilFunc]:=⟨by kernel_rfl⟩
instance:Zc prog 94 [.int .i64 0,.int .i64 0,.int .i64 0,.int .i64 0,.nilFunc,.nilFunc,.int .i64 0,↑false,.int .u64 0,.string .empty,.int .i64 0,.int .i64 0,.int .i64 0,↑false]:=⟨by kernel_rfl⟩
instance:Zc prog 33 [.int .i64 0]:=⟨by kernel_rfl⟩
instance:Zc prog 44 [.int .i64 0]:=⟨by kernel_rfl⟩
instance:Qg prog 102 [.nilIface,.int .i64 0,.int .i64 0,.int .i64 0,.int .i64 0,.nilFunc,.nilFunc,.int .i64 0,↑false,.int .u64 0,.string .empty,.int .i64 0,.int .i64 0,.int .i64 0,↑false,.int .i64 0,↑false] [(0,1),(1,14),(15,1),(16,1)]:=⟨by kernel_rfl⟩
instance:Fo prog 90 0 0:=⟨by kernel_rfl⟩
instance:Fo prog 94 0 0:=⟨by kernel_rfl⟩
instance:Fo prog 94 3 6:=⟨by kernel_rfl⟩
instance:Fo prog 102 0 0:=⟨by kernel_rfl⟩
instance:Fo prog 102 1 1:=⟨by kernel_rfl⟩
instance:Fo prog 102 2 15:=⟨by kernel_rfl⟩
instance:Fo prog 102 3 16:=⟨by kernel_rfl⟩
instance:Qg prog 87 [.nilIface,.int .i64 0,↑false] [(0,1),(1,2)]:=⟨by kernel_rfl⟩
instance:One prog 99:=⟨by kernel_rfl⟩
instance:Sz prog 87 3:=⟨by kernel_rfl⟩
instance:Zc prog 87 [.nilIface,.int .i64 0,↑false]:=⟨by kernel_rfl⟩
instance:One prog 36:=⟨by kernel_rfl⟩
instance:KO prog 49 1 1:=⟨by kernel_rfl⟩
instance:gB prog 253 40:=⟨by kernel_rfl⟩
instance:Ss prog 40 (.slice none 0 0) 1 24:=⟨by kernel_rfl⟩
instance:Qg prog 259 [.nilIface,.int .i64 0,.int .i64 0,.int .i64 0,.int .i64 0,.int .u64 0,.slice none 0 0,.int .u64 0,.string .empty,.int .u64 0,.slice none 0 0,.int .i64 0,.int .i64 0,.int .i64 0,.int .i64 0,.int .i64 0,.int .u64 0,.string .empty,.int .u64 0,.int .i64 0] [(0,1),(1,1),(2,14),(16,1),(17,2),(19,1)]:=⟨by kernel_rfl⟩
instance:Fo prog 259 0 0:=⟨by kernel_rfl⟩
instance:Fo prog 259 1 1:=⟨by kernel_rfl⟩
instance:Fo prog 259 2 2:=⟨by kernel_rfl⟩
instance:Fo prog 259 3 16:=⟨by kernel_rfl⟩
instance:Fo prog 259 4 17:=⟨by kernel_rfl⟩
instance:Fo prog 259 5 19:=⟨by kernel_rfl⟩
instance:Sz prog 259 20:=⟨by kernel_rfl⟩
instance:Zc prog 259 [.nilIface,.int .i64 0,.int .i64 0,.int .i64 0,.int .i64 0,.int .u64 0,.slice none 0 0,.int .u64 0,.string .empty,.int .u64 0,.slice none 0 0,.int .i64 0,.int .i64 0,.int .i64 0,.int .i64 0,.int .i64 0,.int .u64 0,.string .empty,.int .u64 0,.int .i64 0]:=⟨by kernel_rfl⟩
instance:Qg prog 248 [.nilIface,.int .i64 0,↑false,.int .i64 0,.int .i64 0,.int .i64 0,.nilFunc] [(0,3),(3,1),(4,1),(5,1),(6,1)]:=⟨by kernel_rfl⟩
instance:Fo prog 248 0 0:=⟨by kernel_rfl⟩
instance:Fo prog 248 1 3:=⟨by kernel_rfl⟩
instance:Fo prog 248 2 4:=⟨by kernel_rfl⟩
instance:Fo prog 248 3 5:=⟨by kernel_rfl⟩
instance:Fo prog 248 4 6:=⟨by kernel_rfl⟩
instance:One prog 246:=⟨by kernel_rfl⟩
instance:Zc prog 3 [.int .i64 0]:=⟨by kernel_rfl⟩
instance:Qg prog 158 [.nilIface,.int .i64 0,↑false,.string .empty,.int .u64 0,.int .u64 0,.int .i64 0,.int .u64 0,.int .i64 0,.int .i64 0,.int .i64 0,.int .i64 0] [(0,3),(3,1),(4,1),(5,1),(6,1),(7,1),(8,1),(9,1),(10,1),(11,1)]:=⟨by kernel_rfl⟩
instance:Fo prog 158 0 0:=⟨by kernel_rfl⟩
instance:Fo prog 158 1 3:=⟨by kernel_rfl⟩
instance:Fo prog 158 2 4:=⟨by kernel_rfl⟩
instance:Fo prog 158 3 5:=⟨by kernel_rfl⟩
instance:Fo prog 158 4 6:=⟨by kernel_rfl⟩
instance:Fo prog 158 5 7:=⟨by kernel_rfl⟩
instance:Fo prog 158 6 8:=⟨by kernel_rfl⟩
instance:Fo prog 158 7 9:=⟨by kernel_rfl⟩
instance:Fo prog 158 8 10:=⟨by kernel_rfl⟩
instance:Fo prog 158 9 11:=⟨by kernel_rfl⟩
instance:One prog 156:=⟨by kernel_rfl⟩
instance:Sz prog 156 1:=⟨by kernel_rfl⟩
instance:Zc prog 156 [.pointer none]:=⟨by kernel_rfl⟩
instance:Fo prog 70 4 4:=⟨by kernel_rfl⟩
instance:Sz prog 70 5:=⟨by kernel_rfl⟩
instance:KO prog 35 0 0:=⟨by kernel_rfl⟩
instance:KO prog 35 1 1:=⟨by kernel_rfl⟩
instance:KO prog 42 0 0:=⟨by kernel_rfl⟩
instance:Zc prog 70 [.int .i64 0,.int .i64 0,.int .i64 0,.int .i64 0,.slice none 0 0]:=⟨by kernel_rfl⟩
instance (c:Cc):aEp (Cm c):=⟨kF c⟩
instance:DA prog enM:=⟨λ_ h=>eF h⟩
end Go.Q9
end
