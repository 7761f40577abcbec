/- Parts of a proof: E1. -/
import Derived.Calls
import Derived.OrdersHeld
import Derived.KernelRfl
import Derived.OwnWalk
import Derived.Laws.ResultCell
set_option linter.unusedVariables false
set_option linter.unusedSimpArgs false
set_option maxRecDepth 100000
set_option maxHeartbeats 4000000
set_option linter.defProp false
namespace Go
def Bs:=@Option.some.injEq
def KP:=@List.map_cons
def P4:=@Nat.eq_of_beq_eq_true
def tV:=@cond_true
def Zq4:=@Array.getD_eq_getD_getElem?
def WA:=@List.getElem?_drop
def P1:=@Nat.add_zero
def Hd:=@List.length_cons
def pM:=@Bool.and_eq_true
def Ae:=@beq_iff_eq
def MY:=@List.all_eq_true
def WH:=@Array.getElem?_eq_getElem
def aW:=@Nat.le_refl
def Mb:=@List.getElem?_cons_succ
def YA:=@Nat.add_sub_cancel
def kR:=@Nat.le_trans
def Lz:=@Nat.lt_of_lt_of_le
def fV:=@List.getElem?_eq_getElem
def NK:=@List.getElem?_cons_zero
def vS:=@List.getElem?_append_left
def tN:=@List.getElem?_append_right
def cV:=@List.length_append
def Qs:=@List.nil_append
def wS:=@Nat.zero_add
def gZ:=@Bool.not_eq_true'
def fN:=@cond_false
def DN:=@List.getElem?_take
def Ze:=@Option.map_some
def AG:=@List.getElem?_map
def cK:=@List.getD_eq_getElem?_getD
def HY:=@List.flatMap_cons
def bZ:=@Nat.zero_le
def Qa:=@Int.toNat_natCast
def UM:=@List.drop_eq_getElem_cons
def lI:=@List.length_take
def Hc:=@Nat.min_eq_left
def NI:=@Nat.mul_le_mul_right
def Z2:=@List.eq_nil_of_length_eq_zero
def i7:=@List.take_append_drop
def xW:=@List.take_of_length_le
def tS:=@List.length_set
def Bp:=@List.length_drop
def NU:=@List.length_replicate
def OE:=@List.append_nil
def Gg:=@Nat.lt_or_ge
def vX:=@List.length_map
def xX:=@Bool.not_true
def Eb:=@Bool.or_false
def gM:=@decide_eq_true
def cI:=@decide_eq_false
def Sc:=@Nat.lt_of_le_of_lt
def PO:=@Nat.lt_succ_self
def Ur:=@List.mem_singleton
def Gx:=@decide_eq_true_eq
def uY:=@List.getElem_mem
def Md:=@List.map_append
def He:=@List.mem_append
def NQ:=@List.mem_of_mem_take
def UC:=@List.mem_of_mem_drop
def vL:=@Int.eq_ofNat_of_zero_le
def Uy:=@Bool.not_eq_false
def xI:=@List.prefix_refl
def LQ:=@List.prefix_append
def fR:=@List.length_singleton
def dH:=@of_decide_eq_true
def dR:=@of_decide_eq_false
def dQ:=@Bool.eq_false_or_eq_true
def bM:=@ne_of_beq_false
def hU:=@Bool.not_eq_false'
def V9:=@List.take_succ_eq_append_getElem
def Zj:=@List.filter_cons
def Lx:=@Option.some.inj
def F2:=@List.getElem?_set_ne
def zA:=@List.append_assoc
def PQ:=@List.mem_cons_self
def VY:=@List.mem_cons_of_mem
def Ji:=@Bool.not_false
def wO:=@Nat.le_of_lt
def Gs:=@Bool.or_true
def Ja:=@Bool.false_or
def Io:=@Bool.true_or
end Go
namespace Go
instance:Coe Nat Value:=⟨λb=>.pointer (some ⟨b,0,none⟩)⟩
instance:Coe Int Value:=⟨λx=>.int .i64 x⟩
instance:Coe Bool Value:=⟨λx=>.bool x⟩
instance:Coe ByteArray Value:=⟨λx=>.string x⟩
end Go
section
namespace Go.E
inductive Tm where
 |n
 |c (t:Nat) (v:Value) (r:Tm)
def Tm.get:Tm->Nat->Option Value
 |.n,_=>none
 |.c t v l,s=>bif Nat.beq t s then some v else Tm.get l s
def Tm.put(e:Tm):Option Nat->Value->Tm
 |some d,v=>.c d v e
 |none,_=>e
def ev(n:Nat)(e:Tm):Operand->Option Value
 |.tmp t=>bif Nat.blt t n then Tm.get e t else none
 |.const v=>some v
 |.func f=>some (.func (.func f) #[] #[])
 |.global g=>some (.pointer (some ⟨g,0,none⟩))
def uU(n:Nat)(e:Tm):List Operand->Option (List Value)
 |[]=>some []
 |o::r=>match ev n e o,uU n e r with
  |some v,some vs=>some (v::vs)
  |_,_=>none
theorem kY{t n:Nat}:Nat.blt t n=true↔t<n:=by simp[Nat.blt_eq]
theorem BF{n t:Nat}{e:Tm}{v:Value}(h:ev n e (.tmp t)=some v):t<n/\Tm.get e t=some v:=by
 simp only[ev]at h
 cases hb:Nat.blt t n with
 |false=>rw[hb]at h;cases h
 |true=>rw[hb]at h;exact⟨kY.1 hb,h⟩
structure Fits(n:Nat)(e:Tm)(a:Act):Prop where
 size:a.tmps.size=n
 defers:a.defers=[]
 get:∀t v,t<n->Tm.get e t=some v->a.tmps.getD t undef=v
theorem Fits.eval{n:Nat}{e:Tm}{a:Act}(h:Fits n e a){x:Operand}{v:Value}(hx:ev n e x=some v):a.eval x=v:=by
 cases x with
 |tmp t=>
  obtain⟨h1,h2⟩:=BF hx;exact h.get t v h1 h2
 |const u=>simp only[ev,Bs]at hx;exact hx
 |func f=>simp only[ev,Bs]at hx;exact hx
 |global g=>simp only[ev,Bs]at hx;exact hx
theorem Fits.aBc{n:Nat}{e:Tm}{a:Act}(h:Fits n e a):∀{xs:List Operand} {vs:List Value},uU n e xs=some vs->xs.map a.eval=vs
 |[],vs,hx=>by simp only[uU,Bs]at hx;rw[<- hx];rfl
 |o::r,vs,hx=>by
  unfold uU at hx
  cases h1:ev n e o with
  |none=>simp[h1]at hx
  |some v=>cases h2:uU n e r with
   |none=>simp[h1,h2]at hx
   |some us=>simp only[h1,h2,Bs]at hx;rw[<- hx,KP,h.eval h1,h.aBc h2]
theorem Fits.put{n:Nat}{e:Tm}{a:Act}(h:Fits n e a)(d:Option Nat)(v:Value):Fits n (Tm.put e d v) (a.put d v):=by
 cases d with
 |none=>exact h
 |some d=>
  refine⟨by simp[Act.put,h.size],h.defers,λt u ht hg=>?_⟩
  unfold Tm.put Tm.get at hg
  cases hb:Nat.beq d t with
  |true=>
   have e1:d=t:=P4 hb
   subst e1
   rw[hb]at hg
   simp only[tV,Bs]at hg
   have hs:=h.size
   simp[Act.put,Zq4,hs,ht,hg]
  |false=>
   have e1:d≠t:=λe1=>by rw[e1]at hb;rw[Nat.beq_refl]at hb;cases hb
   rw[hb]at hg
   have:=h.get t u ht hg
   simp only[Act.put,Zq4]at this ⊢
   rw[Array.getElem?_setIfInBounds_ne e1]
   exact this
abbrev kG:=Exit->Tm->World->Prop
def lift(n:Nat)(K:kG):Exit->Act->World->Prop
 |.panic _,_,_=>False
 |.outgrown,_,_=>False
 |x,a,w=>∃e,Fits n e a/\K x e w
variable{P:Program}{n:Nat}{K:kG}{e:Tm}{w:World}
def C(P:Program)(n:Nat)(c:Code)(K:kG)(e:Tm)(w:World):Prop:=∀a,Fits n e a->c.wp P (lift n K) a w
def kV(k:Tm->World->Prop)(K:kG):kG
 |.normal,e,w=>k e w
 |x,e,w=>K x e w
def lL(id:Nat)(K:kG):kG
 |.exit i,e,w=>bif Nat.beq i id then K .normal e w else K (.exit i) e w
 |x,e,w=>K x e w
theorem sq{x y:Code}(h:C P n x (kV (C P n y K) K) e w):C P n (.seq x y) K e w:=λa ha=>by
 refine wp_seq (wp_mono (h a ha) ?_)
 intro ex a w hq
 cases ex<;>simp only[lift,kV,Exit.then]at hq ⊢<;>first|exact hq|(obtain⟨e1,h1,h2⟩:=hq;exact h2 _ h1)
theorem nx{k:Tm->World->Prop}(h:k e w):kV k K .normal e w:=h
theorem bk{id:Nat}{c:Code}(h:C P n c (lL id K) e w):C P n (.block id c) K e w:=λa ha=>by
 refine wp_block (wp_mono (h a ha) ?_)
 intro ex a w hq
 cases ex<;>simp only[lift,lL,Exit.inBlock]at hq ⊢<;>try exact hq
 rename_i i
 obtain⟨e1,h1,h2⟩:=hq
 by_cases hi:i=id
 ·subst hi;rw[Nat.beq_refl]at h2;rw[if_pos rfl];exact⟨e1,h1,h2⟩
 ·rw[if_neg hi]
  have:Nat.beq i id=false:=by cases hb:Nat.beq i id with
   |true=>exact absurd (P4 hb) hi
   |false=>rfl
  rw[this]at h2;exact⟨e1,h1,h2⟩
theorem cd{c:Operand}{x y:Code}{b:Bool}(hc:ev n e c=some (.bool b))(ht:b=true->C P n x K e w)(hf:b=false->C P n y K e w):C P n (.cond c x y) K e w:=λa ha=>
 wp_cond_split (ha.eval hc) (λh=>ht h a ha) (λh=>hf h a ha)
theorem cT{c:Operand}{x y:Code}(hc:ev n e c=some (.bool true))(h:C P n x K e w):C P n (.cond c x y) K e w:=λa ha=>wp_cond_true (ha.eval hc) (h a ha)
theorem cF{c:Operand}{x y:Code}(hc:ev n e c=some (.bool false))(h:C P n y K e w):C P n (.cond c x y) K e w:=λa ha=>wp_cond_false (ha.eval hc) (h a ha)
theorem ct{c:Operand}{x y:Code}{b:Bool}(hc:ev n e c=some (.bool b))(hb:b=true)(h:C P n x K e w):C P n (.cond c x y) K e w:=by subst hb;exact cT hc h
theorem cf{c:Operand}{x y:Code}{b:Bool}(hc:ev n e c=some (.bool b))(hb:b=false)(h:C P n y K e w):C P n (.cond c x y) K e w:=by subst hb;exact cF hc h
theorem sk(h:K .normal e w):C P n .skip K e w:=λa ha=>wp_skip ⟨e,ha,h⟩
theorem xt{id:Nat}(h:K (.exit id) e w):C P n (.exit id) K e w:=λa ha=>wp_exit ⟨e,ha,h⟩
theorem rt(h:K .ret e w):C P n .ret K e w:=λa ha=>wp_ret ⟨e,ha,h⟩
def Sub(n:Nat)(e:Tm):Tm->Prop
 |.n=>True
 |.c t v r=>ev n e (.tmp t)=some v/\Sub n e r
theorem Sub.get{e:Tm}:∀{e':Tm},Sub n e e'->∀t v,t<n->Tm.get e' t=some v->Tm.get e t=some v
 |.n,_,t,v,_,h=>by cases h
 |.c t0 v0 r,hs,t,v,ht,h=>by
  unfold Tm.get at h
  cases hb:Nat.beq t0 t with
  |false=>rw[hb]at h;exact Sub.get hs.2 t v ht h
  |true=>
   rw[hb]at h
   simp only[tV,Bs]at h
   have h1:=hs.1
   have e1:t0=t:=P4 hb
   rw[e1,h]at h1
   exact(BF h1).2
theorem Fits.sub{e e':Tm}{a:Act}(h:Fits n e a)(hs:Sub n e e'):Fits n e' a:=⟨h.size,h.defers,λt v ht hg=>h.get t v ht (hs.get t v ht hg)⟩
theorem C.sub{c:Code}{e':Tm}(hs:Sub n e e')(h:C P n c K e' w):C P n c K e w:=λa ha=>h a (ha.sub hs)
theorem least{p:Nat->Prop}:∀(k:Nat),p k->∃m,p m/\∀j,p j->m<=j:=by
 intro k
 induction k using Nat.strongRecOn with
 |_ k ih=>
  intro hk
  by_cases h:∃j,j<k/\p j
  ·obtain⟨j,h1,h2⟩:=h;exact ih j h1 h2
  ·exact⟨k,hk,λj hj=>Nat.le_of_not_lt λhl=>h ⟨j,hl,hj⟩⟩
open Classical in
noncomputable def Mz (p:Nat->Prop):Nat:=if h:∃k,p k then(least (p:=p) h.choose h.choose_spec).choose else 0
theorem Gm{p:Nat->Prop}(h:∃k,p k):p (Mz p)/\∀j,p j->Mz p<=j:=by
 unfold Mz;rw[dif_pos h];exact(least (p:=p) h.choose h.choose_spec).choose_spec
theorem lp{α:Type}{c:Code}(E:α->Tm)(I:α->World->Prop)(m:α->Nat)(x:α)(hs:Sub n e (E x))(hI:I x w)
  (k:∀x w,I x w->C P n c (kV (λe w=>∃y,Sub n e (E y)/\I y w/\m y<m x) K) (E x) w):C P n (.loop c) K e w:=λa ha=>by
 refine wp_loop (I:=λa w=>∃k x,m x=k/\Fits n (E x) a/\I x w) (μ:=λa w=>Mz λk=>∃x,m x=k/\Fits n (E x) a/\I x w) ⟨_,x,rfl,ha.sub hs,hI⟩ ?_
 intro a w hx
 obtain⟨⟨x0,h0,h1,h2⟩,_⟩:=Gm hx
 refine wp_mono (k x0 w h2 a h1) ?_
 intro ex a' w' hq
 cases ex<;>simp only[lift,kV,Exit.then]at hq ⊢<;>try exact hq
 obtain⟨e1,f1,y,g1,g2,g3⟩:=hq
 have hy:∃x,m x=m y/\Fits n (E x) a'/\I x w':=⟨y,rfl,f1.sub g1,g2⟩
 refine⟨⟨_,hy⟩,?_⟩
 have:=(Gm (p:=λk=>∃x,m x=k/\Fits n (E x) a'/\I x w') ⟨_,hy⟩).2 _ hy
 omega
def gA(P:Program)(ops:Array Oper)(Q:Exit->Act->World->Prop):List Oper->Act->World->Prop
 |[],a,w=>Q .normal a w
 |o::rest,a,w=>if Region.wanted o (yielded ops a.tmps)then o.wp P a w (gA P ops Q rest) Q else gA P ops Q rest (a.put o.dst undef) w
theorem BP{ops:Array Oper}{Q:Exit->Act->World->Prop}:∀(l:List Oper) (i:Nat) (a:Act) (w:World),ops.toList.drop i=l->gA P ops Q l a w->wpOps P ops Q (List.range' i l.length) a w
 |[],i,a,w,_,h=>h
 |o::l,i,a,w,hd,h=>by
  have ho:ops[i]?=some o:=by
   rw[<- Array.getElem?_toList]
   have h0:(ops.toList.drop i)[0]?=some o:=by rw[hd];rfl
   rwa [WA,P1]at h0
  have Lv:ops.toList.drop (i+1)=l:=by rw[<- List.drop_drop,hd];rfl
  rw[Hd,List.range'_succ]
  unfold wpOps
  rw[ho]
  unfold gA at h
  dsimp only
  split
  ·rename_i hw
   rw[if_pos hw]at h
   exact .inl (Oper.wp_mono (λa w hh=>BP l (i+1) a w Lv hh) h)
  ·rename_i hw
   rw[if_neg hw]at h
   exact BP l (i+1) _ w Lv h
def X(P:Program)(n:Nat)(ops:Array Oper)(l:List Oper)(K:kG)(e:Tm)(w:World):Prop:=∀a,Fits n e a->gA P ops (lift n K) l a w
variable{ops:Array Oper}{l:List Oper}
theorem rg{id:Nat}(h:X P n ops ops.toList K e w):C P n (.region id ops false) K e w:=λa ha=>
 wp_region (by
  have:=BP ops.toList 0 a w (by simp) (h a ha)
  rw[List.range_eq_range']
  simpa using this)
theorem xe(h:K .normal e w):X P n ops [] K e w:=λa ha=>⟨e,ha,h⟩
def Y(P:Program)(n:Nat)(e:Tm)(o:Oper)(w:World)(v:Value)(w':World):Prop:=∀a,Fits n e a->(execOp a.eval o).run P w=.ok (.value v) w'
def U(P:Program)(n:Nat)(e:Tm)(o:Oper)(w:World)(w':World):Prop:=∀a,Fits n e a->(execOp a.eval o).run P w=.ok .skip w'
theorem qW{o:Oper}{y:Nat->Option Bool}(h:o.guard=none):Region.wanted o y=true:=by unfold Region.wanted;rw[h]
theorem st{o:Oper}{v:Value}{w':World}(y:Y P n e o w v w')(k:X P n ops l K (Tm.put e o.dst v) w')(hg:o.guard=none:=by rfl):X P n ops (o::l) K e w:=λa ha=>by
 unfold gA;rw[if_pos (qW hg)];unfold Oper.wp;rw[y a ha];exact k _ (ha.put _ _)
theorem su{o:Oper}{w':World}(y:U P n e o w w')(k:X P n ops l K (Tm.put e o.dst undef) w')(hg:o.guard=none:=by rfl):X P n ops (o::l) K e w:=λa ha=>by
 unfold gA;rw[if_pos (qW hg)];unfold Oper.wp;rw[y a ha];exact k _ (ha.put _ _)
def nH(P:Program)(f:FuncId):Prop:=∀(args:Array Value) (w:World),(callFunc f args).run P w=.ok (.enter f args) w
def Ca(P:Program)(n:Nat)(e:Tm)(o:Oper)(w:World)(f:FuncId)(args:Array Value):Prop:=∀a,Fits n e a->(execOp a.eval o).run P w=.ok (.enter f args) w
theorem cl{o:Oper}{f:FuncId}{args:Array Value}(c:Ca P n e o w f args)(k:Calls P f args w λx w'=>∃v,x=.returned v/\X P n ops l K (Tm.put e o.dst v) w')(hg:o.guard=none:=by rfl):X P n ops (o::l) K e w:=λa ha=>by
 unfold gA;rw[if_pos (qW hg)];unfold Oper.wp;rw[c a ha]
 refine k.mono ?_
 rintro _ w' ⟨v,rfl,h⟩
 exact h _ (ha.put _ _)
def wpS(P:Program)(ops:Array Oper)(Q:Exit->Act->World->Prop)(S:World->Prop):List (Oper×Bool)->Act->World->Prop
 |[],a,w=>Q .normal a w
 |(o,true)::rest,a,w=>∃v,YieldsIf P ops S o v a/\wpS P ops Q S rest (a.put o.dst v) w
 |(o,false)::rest,a,w=>if Region.wanted o (yielded ops a.tmps)then o.wp P a w (λa w=>S w/\wpS P ops Q S rest a w) Q else wpS P ops Q S rest (a.put o.dst undef) w
def P0(ops:Array Oper):List (Nat×Bool)->Array Bool->Bool
 |[],listed=>Region.ready .any ops listed==[]
 |(i,true)::is,listed=>Region.free .any ops listed i&&(Region.ready .any ops listed).contains i&&P0 ops is (listed.setIfInBounds i true)
 |(i,false)::is,listed=>Region.ready .any ops listed==[i]&&P0 ops is (listed.setIfInBounds i true)
def opsOf(ops:Array Oper)(is:List (Nat×Bool)):List (Oper×Bool):=is.map λp=>(ops.getD p.1 default,p.2)
theorem An{Q:Exit->Act->World->Prop}{S:World->Prop}(hs:Region.noSelect ops=true)(hQ:∀c a w,¬Q (.panic c) a w):∀(is:List (Nat×Bool)) (listed:Array Bool) (a:Act) (w:World),
  P0 ops is listed=true->(∀p∈is,p.1<ops.size)->S w->wpS P ops Q S (opsOf ops is) a w->wpAnyH P .any ops Q S is.length listed a w
 |[],listed,a,w,hc,_,_,h=>wpAnyH_done (by simpa[P0]using hc) h 0
 |(i,true)::is,listed,a,w,hc,hi,hS,h=>by
  simp only[P0,pM]at hc
  obtain⟨v,h1,h2⟩:=h
  have hlt:i<ops.size:=hi (i,true) (by simp)
  have hd:ops.getD i default=ops[i]:=by simp[Array.getD,hlt]
  have ho:ops[i]?=some (ops.getD i default):=by rw[hd];simp[hlt]
  exact wpAnyH_take ho hs hc.1.1 hc.1.2 (λc a w hq=>absurd hq (hQ _ _ _)) h1 hS (An hs hQ is _ _ _ hc.2 (λp hp=>hi p (by simp[hp])) hS h2)
 |(i,false)::is,listed,a,w,hc,hi,hS,h=>by
  simp only[P0,pM,Ae]at hc
  have hlt:i<ops.size:=hi (i,false) (by simp)
  have hd:ops.getD i default=ops[i]:=by simp[Array.getD,hlt]
  have ho:ops[i]?=some (ops.getD i default):=by rw[hd];simp[hlt]
  have hi':∀p∈is,p.1<ops.size:=λp hp=>hi p (by simp[hp])
  refine wpAnyH_all hc.1 (by simp) ?_
  intro j hj
  have hj:j=i:=by simpa using hj
  rw[hj]
  clear hj
  unfold wpOp
  rw[ho]
  dsimp only
  unfold opsOf at h
  rw[KP]at h
  unfold wpS at h
  dsimp only at h
  by_cases hw:Region.wanted (ops.getD i default) (yielded ops a.tmps)=true
  ·rw[if_pos hw]at h ⊢
   exact .inl (Oper.wp_mono (λa w hh=>⟨hh.1,An hs hQ is _ _ _ hc.2 hi' hh.1 hh.2⟩) h)
  ·rw[if_neg hw]at h ⊢
   exact⟨hS,An hs hQ is _ _ _ hc.2 hi' hS h⟩
def XS(P:Program)(n:Nat)(ops:Array Oper)(S:World->Prop)(l:List (Oper×Bool))(K:kG)(e:Tm)(w:World):Prop:=∀a,Fits n e a->wpS P ops (lift n K) S l a w
variable{S:World->Prop}{ls:List (Oper×Bool)}
def BX(P:Program)(ops:Array Oper)(is:List (Nat×Bool)):Bool:=
 P.follows .mixedOrders&&Region.noSelect ops&&(is.all λp=>Nat.blt p.1 ops.size)&&is.length==ops.size&&P0 ops is (Array.replicate ops.size false)
theorem dr(S:World->Prop)(is:List (Nat×Bool)){id:Nat}(hc:BX P ops is=true)(hS:S w.drew)(h:XS P n ops S (opsOf ops is) K e w.drew):C P n (.region id ops true) K e w:=λa ha=>by
 simp only[BX,pM,Ae,MY]at hc
 obtain⟨⟨⟨⟨h1,h2⟩,h3⟩,h4⟩,h5⟩:=hc
 refine wp_region_held (S:=S) h1 ?_
 have:=An (P:=P) (Q:=lift n K) (S:=S) h2 (λc a w hq=>hq) is _ a w.drew h5 (λp hp=>kY.1 (h3 p hp)) hS (h a ha)
 rw[h4]at this
 exact this
theorem xz(h:K .normal e w):XS P n ops S [] K e w:=λa ha=>⟨e,ha,h⟩
theorem tk{o:Oper}{v:Value}(y:∀W,S W->Y P n e o W v W)(k:XS P n ops S ls K (Tm.put e o.dst v) w)(hg:o.guard=none:=by rfl):XS P n ops S ((o,true)::ls) K e w:=λa ha=>
 ⟨v,.inl ⟨qW hg,λW hW=>y W hW a ha⟩,k _ (ha.put _ _)⟩
theorem ef{o:Oper}{v:Value}{w':World}(y:Y P n e o w v w')(hS:S w')(k:XS P n ops S ls K (Tm.put e o.dst v) w')(hg:o.guard=none:=by rfl):XS P n ops S ((o,false)::ls) K e w:=λa ha=>by
 unfold wpS;rw[if_pos (qW hg)];unfold Oper.wp;rw[y a ha];exact⟨hS,k _ (ha.put _ _)⟩
theorem eu{o:Oper}{w':World}(y:U P n e o w w')(hS:S w')(k:XS P n ops S ls K (Tm.put e o.dst undef) w')(hg:o.guard=none:=by rfl):XS P n ops S ((o,false)::ls) K e w:=λa ha=>by
 unfold wpS;rw[if_pos (qW hg)];unfold Oper.wp;rw[y a ha];exact⟨hS,k _ (ha.put _ _)⟩
theorem cs{o:Oper}{f:FuncId}{args:Array Value}(c:Ca P n e o w f args)(k:Calls P f args w λx w'=>∃v,x=.returned v/\S w'/\XS P n ops S ls K (Tm.put e o.dst v) w')(hg:o.guard=none:=by rfl):XS P n ops S ((o,false)::ls) K e w:=λa ha=>by
 unfold wpS;rw[if_pos (qW hg)];unfold Oper.wp;rw[c a ha]
 refine k.mono ?_
 rintro _ w' ⟨v,rfl,hS,h⟩
 exact⟨hS,h _ (ha.put _ _)⟩
theorem Nt{o:Oper}{a:Act}{j t:Nat}{b c:Bool}(hg:o.guard=some (j,c))(hj:(ops[j]?).bind (·.dst)=some t)(ha:Fits n e a)(ht:ev n e (.tmp t)=some (.bool b)):Region.wanted o (yielded ops a.tmps)=(b==c):=by
 unfold Region.wanted
 rw[hg]
 have hlt:t<n:=(BF ht).1
 have h1:a.tmps.getD t undef=.bool b:=by
  have:=ha.eval ht;exact this
 have h2:a.tmps[t]?=some (.bool b):=by
  have hs:=ha.size
  rw[Zq4,WH (by omega)]at h1
  rw[WH (by omega)]
  exact congrArg some h1
 dsimp only
 unfold yielded
 rw[hj,Option.bind_some,h2]
 cases b<;>cases c<;>rfl
variable{d:Option Tmp}{op:Op}{ty:TypeId}{ps:String}{af:Array Edge}
theorem gT{j t:Nat}{b c:Bool}(hj:(ops[j]?).bind (·.dst)=some t)(ht:ev n e (.tmp t)=some (.bool b))(hb:b=c)(k:X P n ops (⟨d,op,ty,ps,af,none⟩::l) K e w):X P n ops (⟨d,op,ty,ps,af,some (j,c)⟩::l) K e w:=λa ha=>by
 have h:=k a ha
 unfold gA at h ⊢
 rw[if_pos (by rw[Nt (o:=⟨d,op,ty,ps,af,some (j,c)⟩) rfl hj ha ht,hb];simp)]
 rw[if_pos (qW rfl)]at h
 exact h
theorem gF{j t:Nat}{b c:Bool}(hj:(ops[j]?).bind (·.dst)=some t)(ht:ev n e (.tmp t)=some (.bool b))(hb:b=!c)(k:X P n ops l K (Tm.put e d undef) w):X P n ops (⟨d,op,ty,ps,af,some (j,c)⟩::l) K e w:=λa ha=>by
 unfold gA
 rw[if_neg (by rw[Nt (o:=⟨d,op,ty,ps,af,some (j,c)⟩) rfl hj ha ht,hb];cases c<;>simp)]
 exact k _ (ha.put _ _)
theorem uZ{j t:Nat}{b c f:Bool}(hj:(ops[j]?).bind (·.dst)=some t)(ht:ev n e (.tmp t)=some (.bool b))(hb:b=c)(k:XS P n ops S ((⟨d,op,ty,ps,af,none⟩,f)::ls) K e w):XS P n ops S ((⟨d,op,ty,ps,af,some (j,c)⟩,f)::ls) K e w:=λa ha=>by
 have h:=k a ha
 have hw:Region.wanted (⟨d,op,ty,ps,af,some (j,c)⟩:Oper) (yielded ops a.tmps)=true:=by rw[Nt (o:=⟨d,op,ty,ps,af,some (j,c)⟩) rfl hj ha ht,hb];simp
 cases f with
 |true=>
  obtain⟨v,h1,h2⟩:=h
  refine⟨v,.inl ⟨hw,?_⟩,h2⟩
  rcases h1 with⟨_,h1⟩|⟨h1,_⟩
  ·exact h1
  ·rw[qW rfl]at h1;cases h1
 |false=>
  unfold wpS at h ⊢
  rw[if_pos hw]
  rw[if_pos (qW rfl)]at h
  exact h
theorem Cf{j t:Nat}{b c f:Bool}(hj:(ops[j]?).bind (·.dst)=some t)(ht:ev n e (.tmp t)=some (.bool b))(hb:b=!c)(k:XS P n ops S ls K (Tm.put e d undef) w):XS P n ops S ((⟨d,op,ty,ps,af,some (j,c)⟩,f)::ls) K e w:=λa ha=>by
 have hw:Region.wanted (⟨d,op,ty,ps,af,some (j,c)⟩:Oper) (yielded ops a.tmps)=false:=by rw[Nt (o:=⟨d,op,ty,ps,af,some (j,c)⟩) rfl hj ha ht,hb];cases c<;>simp
 cases f with
 |true=>exact⟨undef,.inr ⟨hw,rfl⟩,k _ (ha.put _ _)⟩
 |false=>
  unfold wpS
  rw[if_neg (by rw[hw];simp)]
  exact k _ (ha.put _ _)
variable{k':Tm->World->Prop}
theorem tx{i:Nat}(h:K (.exit i) e w):kV k' K (.exit i) e w:=h
theorem tr(h:K .ret e w):kV k' K .ret e w:=h
theorem bn{i:Nat}(h:K .normal e w):lL i K .normal e w:=h
theorem be{i:Nat}(h:K .normal e w):lL i K (.exit i) e w:=by show (bif Nat.beq i i then _ else _);rw[Nat.beq_refl];exact h
theorem bo{i j:Nat}(hb:Nat.beq j i=false)(h:K (.exit j) e w):lL i K (.exit j) e w:=by show (bif Nat.beq j i then _ else _);rw[hb];exact h
theorem bt{i:Nat}(h:K .ret e w):lL i K .ret e w:=h
theorem sm{x y:Code}(M:Tm->World->Prop)(h:C P n x (kV M K) e w)(h2:∀e w,M e w->C P n y K e w):C P n (.seq x y) K e w:=λa ha=>by
 refine wp_seq (wp_mono (h a ha) ?_)
 intro ex a w hq
 cases ex<;>simp only[lift,kV,Exit.then]at hq ⊢<;>first|exact hq|(obtain⟨e1,h3,h4⟩:=hq;exact h2 _ _ h4 _ h3)
def dec:List Nat->List (Nat×Bool)
 |[]=>[]
 |i::l=>(i/2,Nat.beq (i%2) 1)::dec l
def kU(P:Program)(fn:Func)(n:Nat)(e:Tm)(w:World)(v:Value):Prop:=∀a,Fits n e a->(results fn a.tmps).run P w=.ok v w
def fin(P:Program)(fn:Func)(n:Nat)(R:Ending->World->Prop):kG
 |.normal,e,w=>∃v,kU P fn n e w v/\R (.returned v) w
 |.ret,e,w=>∃v,kU P fn n e w v/\R (.returned v) w
 |_,_,_=>False
def Qv:Nat->List Value->Tm
 |_,[]=>.n
 |i,v::l=>.c i v (Qv (i+1) l)
theorem Pl:∀(l:List Value) (i t:Nat) (v:Value),Tm.get (Qv i l) t=some v->i<=t/\l[t-i]?=some v
 |[],_,_,_,h=>by cases h
 |u::l,i,t,v,h=>by
  unfold Qv Tm.get at h
  cases hb:Nat.beq i t with
  |true=>
   have e1:i=t:=P4 hb
   subst e1
   rw[hb]at h
   simp only[tV,Bs]at h
   exact⟨aW _,by simp[h]⟩
  |false=>
   rw[hb]at h
   obtain⟨h1,h2⟩:=Pl l (i+1) t v h
   refine⟨by omega,?_⟩
   rw[show t-i=(t-(i+1))+1 by omega,Mb]
   exact h2
theorem Kk{f:FuncId}{fn:Func}{c:Code}{args:List Value}{R:Ending->World->Prop}(hf:P.funcs[f]?=some fn)(hb:fn.body=some c)(hn:fn.ntmps=n)(ha:Nat.ble args.length n=true)
  (h:C P n c (fin P fn n R) (Qv 0 args) w):Calls P f args.toArray w R:=by
 subst hn
 refine calls_of_wp hf hb (wp_mono (h _ ⟨?_,rfl,?_⟩) ?_)
 ·have:=Nat.le_of_ble_eq_true ha;simp;omega
 ·intro t v ht hg
  obtain⟨_,h2⟩:=Pl args 0 t v hg
  rw[Nat.sub_zero]at h2
  have hl:=(List.getElem?_eq_some_iff.1 h2).1
  simp only[Zq4]
  rw[Array.getElem?_append_left (by simpa using hl),List.getElem?_toArray,h2]
  rfl
 ·intro ex a w hq
  cases ex<;>simp only[lift,fin]at hq<;>try exact hq.elim
  all_goals first
   |(obtain⟨e,h1,v,h2,h3⟩:=hq;exact⟨h1.defers,v,h2 a h1,h3⟩)
   |(obtain⟨e,h1,h2⟩:=hq;exact h2.elim)
theorem mC{fn:Func}{t:Nat}{v:Value}(hr:fn.results=#[.tmp t])(hv:ev n e (.tmp t)=some v):kU P fn n e w v:=λa ha=>by
 have h1:a.tmps.getD t undef=v:=ha.eval hv
 rw[results_tmp hr,h1]
theorem wC{fn:Func}(hr:fn.results=#[]):kU P fn n e w (.tuple #[]):=λa ha=>results_none hr _ _ _
theorem iG{fn:Func}{t u:Nat}{v v':Value}(hr:fn.results=#[.tmp t,.tmp u])(hv:ev n e (.tmp t)=some v)(hv':ev n e (.tmp u)=some v'):kU P fn n e w (.tuple #[v,v']):=λa ha=>by
 have h1:a.tmps.getD t undef=v:=ha.eval hv
 have h2:a.tmps.getD u undef=v':=ha.eval hv'
 rw[results_tmp2 hr,h1,h2]
theorem Mf{fn:Func}{t u s:Nat}{v v' v2:Value}(hr:fn.results=#[.tmp t,.tmp u,.tmp s])(hv:ev n e (.tmp t)=some v)(hv':ev n e (.tmp u)=some v')(QH:ev n e (.tmp s)=some v2):kU P fn n e w (.tuple #[v,v',v2]):=λa ha=>by
 have h1:a.tmps.getD t undef=v:=ha.eval hv
 have h2:a.tmps.getD u undef=v':=ha.eval hv'
 have h3:a.tmps.getD s undef=v2:=ha.eval QH
 rw[results_tmp3 hr,h1,h2,h3]
def isRow:TypeDesc->Bool
 |.struct _=>true
 |.array _ _=>true
 |_=>false
def Dz(P:Program)(t:TypeId):Option Nat:=
 match P.underlying t with
 |some d=>bif isRow d then(P.info? t).map (·.size)else none
 |none=>none
theorem Is{t:TypeId}{k:Nat}(h:Dz P t=some k):∃d,P.underlying t=some d/\isRow d=true/\(P.info? t).map (·.size)=some k:=by
 unfold Dz at h
 cases hd:P.underlying t with
 |none=>rw[hd]at h;cases h
 |some d=>
  rw[hd]at h
  dsimp only at h
  cases hb:isRow d with
  |false=>rw[hb]at h;cases h
  |true=>rw[hb]at h;exact⟨d,rfl,hb,h⟩
theorem X6{t u:TypeId}{g:Nat}{cs:List Value}(hR:Dz P t=some cs.length)(hg:w.heap[g]?=some (.cells cs.toArray u (0,0))):(loadVar t ⟨g,0,none⟩).run P w=.ok (.agg cs.toArray) w:=by
 obtain⟨d,h1,h2,h3⟩:=Is hR
 exact run_loadVar_row w g u t cs.toArray (0,0) d hg h1 (by cases d<;>first|rfl|cases h2) (by simpa using h3)
theorem cD{fn:Func}{t:Nat}{ty u:TypeId}{g:Nat}{cs:List Value}(hr:fn.results=#[.cell t ty])(hp:ev n e (.tmp t)=some (.pointer (some ⟨g,0,none⟩)))(hg:w.heap[g]?=some (.cells cs.toArray u (0,0)))(hR:Dz P ty=some cs.length):kU P fn n e w (.agg cs.toArray):=λa ha=>by
 obtain⟨d,h1,h2,h3⟩:=Is hR
 exact results_cell_row hr a.tmps w g u cs.toArray (0,0) d (ha.eval hp) hg h1 (by cases d<;>first|rfl|cases h2) (by simpa using h3)
theorem dS{fn:Func}{t s:Nat}{ty u:TypeId}{g:Nat}{cs:List Value}{v:Value}(hr:fn.results=#[.cell t ty,.tmp s])(hp:ev n e (.tmp t)=some (.pointer (some ⟨g,0,none⟩)))(hg:w.heap[g]?=some (.cells cs.toArray u (0,0)))(hR:Dz P ty=some cs.length)
  (hv:ev n e (.tmp s)=some v):kU P fn n e w (.tuple #[.agg cs.toArray,v]):=λa ha=>by
 have h4:a.tmps.getD s undef=v:=ha.eval hv
 have h5:a.tmps.getD t undef=_:=ha.eval hp
 rw[results_cell_tmp hr,h4,h5]
 have h6:=X6 (P:=P) hR hg
 simp[asAddr,Result.andThen,h6]
theorem rr{fn:Func}{R:Ending->World->Prop}{v:Value}(hr:kU P fn n e w v)(h:R (.returned v) w):fin P fn n R .ret e w:=⟨v,hr,h⟩
theorem rn{fn:Func}{R:Ending->World->Prop}{v:Value}(hr:kU P fn n e w v)(h:R (.returned v) w):fin P fn n R .normal e w:=⟨v,hr,h⟩
end Go.E
end
namespace Go.Q9
theorem enG{P:Program}{f:FuncId}{F:Func}(h:P.funcs[f]?=some F)(k:(F.name== "runtime.NumGoroutine")=false)(b:F.body.isNone=false):Go.E.nH P f:=fun _ _=>by simp only[callFunc,Sem.run_bind,run_program,Result.andThen_ok];rw[h];dsimp only;rw[k,b];rfl
end Go.Q9
