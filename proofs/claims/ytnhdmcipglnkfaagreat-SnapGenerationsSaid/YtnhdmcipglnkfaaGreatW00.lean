/- Parts of a proof: E1. -/
import Derived.Calls
import Derived.OrdersHeld
import Derived.KernelRfl
import Derived.OwnWalk
import Derived.Laws.ResultCell
set_option linter.unusedVariables false
set_option linter.unusedSimpArgs false
set_option maxRecDepth 100000
set_option maxHeartbeats 4000000
set_option linter.defProp false
namespace Go
def xF:=@Option.some.injEq
def GL:=@List.map_cons
def QN:=@Nat.eq_of_beq_eq_true
def xM:=@cond_true
def WI:=@Array.getD_eq_getD_getElem?
def KQ:=@List.getElem?_drop
def QR:=@List.length_cons
def Qb:=@Bool.and_eq_true
def mQ:=@beq_iff_eq
def wB:=@List.all_eq_true
def CL:=@Array.getElem?_eq_getElem
def JV:=@Nat.le_refl
def bD:=@List.getElem?_cons_succ
def OG:=@Nat.add_sub_cancel
def lK:=@Nat.le_trans
def DM:=@Nat.lt_of_lt_of_le
def fM:=@List.getElem?_eq_getElem
def DI:=@List.getElem?_cons_zero
def xD:=@List.getElem?_append_left
def tW:=@List.getElem?_append_right
def cO:=@List.length_append
def Xb:=@List.nil_append
def xE:=@Nat.zero_add
def lC:=@Bool.not_eq_true'
def pJ:=@cond_false
def Yv:=@List.getElem?_take
def Tx:=@Option.map_some
def Fb:=@List.getElem?_map
def dI:=@List.getD_eq_getElem?_getD
def Xe:=@List.flatMap_cons
def dF:=@Nat.zero_le
def GY:=@Int.toNat_natCast
def jI:=@List.length_take
def Bq:=@Nat.min_eq_left
def IS:=@Nat.mul_le_mul_right
def RF:=@List.take_append_drop
def MA:=@List.take_of_length_le
def uZ:=@List.length_set
def Xs:=@List.length_drop
def yM:=@Nat.lt_or_ge
def PQ:=@List.length_map
def zT:=@Bool.not_true
def mI:=@decide_eq_true
def Ab:=@decide_eq_false
def zE:=@List.filter_append
def fU:=@Nat.lt_of_le_of_lt
def cE:=@List.mem_singleton
def Ft:=@decide_eq_true_eq
def wU:=@List.getElem_mem
def An:=@List.map_append
def qR:=@List.drop_eq_getElem_cons
def tX:=@List.mem_append
def RD:=@List.mem_of_mem_take
def Br:=@List.mem_of_mem_drop
def BO:=@Int.eq_ofNat_of_zero_le
def JA:=@Int.le_refl
def sX:=@Bool.not_eq_false
def Qa:=@List.prefix_refl
def zG:=@List.prefix_append
def CG:=@List.length_singleton
def eC:=@of_decide_eq_true
def cW:=@of_decide_eq_false
def dA:=@Bool.eq_false_or_eq_true
def dP:=@ne_of_beq_false
def bI:=@Bool.not_eq_false'
def mD:=@List.filter_cons
def Pe:=@Option.some.inj
def AD:=@List.getElem?_set_ne
def Co:=@List.append_assoc
def oD:=@List.mem_cons_self
def Dk:=@List.mem_cons_of_mem
def Dj:=@Nat.le_of_lt
end Go
namespace Go
instance:Coe Nat Value:=⟨λb=>.pointer (some ⟨b,0,none⟩)⟩
instance:Coe Int Value:=⟨λx=>.int .i64 x⟩
instance:Coe Bool Value:=⟨λx=>.bool x⟩
instance:Coe ByteArray Value:=⟨λx=>.string x⟩
end Go
section
namespace Go.E
inductive Tm where
 |n
 |c (t:Nat) (v:Value) (r:Tm)
def Tm.get:Tm->Nat->Option Value
 |.n,_=>none
 |.c t v l,s=>bif Nat.beq t s then some v else Tm.get l s
def Tm.put(e:Tm):Option Nat->Value->Tm
 |some d,v=>.c d v e
 |none,_=>e
def ev(n:Nat)(e:Tm):Operand->Option Value
 |.tmp t=>bif Nat.blt t n then Tm.get e t else none
 |.const v=>some v
 |.func f=>some (.func (.func f) #[] #[])
 |.global g=>some (.pointer (some ⟨g,0,none⟩))
def pU(n:Nat)(e:Tm):List Operand->Option (List Value)
 |[]=>some []
 |o::r=>match ev n e o,pU n e r with
  |some v,some vs=>some (v::vs)
  |_,_=>none
theorem iU{t n:Nat}:Nat.blt t n=true↔t<n:=by simp[Nat.blt_eq]
theorem Ts{n t:Nat}{e:Tm}{v:Value}(h:ev n e (.tmp t)=some v):t<n/\Tm.get e t=some v:=by
 simp only[ev]at h
 cases hb:Nat.blt t n with
 |false=>rw[hb]at h;cases h
 |true=>rw[hb]at h;exact⟨iU.1 hb,h⟩
structure Fits(n:Nat)(e:Tm)(a:Act):Prop where
 size:a.tmps.size=n
 defers:a.defers=[]
 get:∀t v,t<n->Tm.get e t=some v->a.tmps.getD t undef=v
theorem Fits.eval{n:Nat}{e:Tm}{a:Act}(h:Fits n e a){x:Operand}{v:Value}(hx:ev n e x=some v):a.eval x=v:=by
 cases x with
 |tmp t=>
  obtain⟨h1,h2⟩:=Ts hx;exact h.get t v h1 h2
 |const u=>simp only[ev,xF]at hx;exact hx
 |func f=>simp only[ev,xF]at hx;exact hx
 |global g=>simp only[ev,xF]at hx;exact hx
theorem Fits.UM{n:Nat}{e:Tm}{a:Act}(h:Fits n e a):∀{xs:List Operand} {vs:List Value},pU n e xs=some vs->xs.map a.eval=vs
 |[],vs,hx=>by simp only[pU,xF]at hx;rw[<- hx];rfl
 |o::r,vs,hx=>by
  unfold pU at hx
  cases h1:ev n e o with
  |none=>simp[h1]at hx
  |some v=>cases h2:pU n e r with
   |none=>simp[h1,h2]at hx
   |some us=>simp only[h1,h2,xF]at hx;rw[<- hx,GL,h.eval h1,h.UM h2]
theorem Fits.put{n:Nat}{e:Tm}{a:Act}(h:Fits n e a)(d:Option Nat)(v:Value):Fits n (Tm.put e d v) (a.put d v):=by
 cases d with
 |none=>exact h
 |some d=>
  refine⟨by simp[Act.put,h.size],h.defers,λt u ht hg=>?_⟩
  unfold Tm.put Tm.get at hg
  cases hb:Nat.beq d t with
  |true=>
   have e1:d=t:=QN hb
   subst e1
   rw[hb]at hg
   simp only[xM,xF]at hg
   have hs:=h.size
   simp[Act.put,WI,hs,ht,hg]
  |false=>
   have e1:d≠t:=λe1=>by rw[e1]at hb;rw[Nat.beq_refl]at hb;cases hb
   rw[hb]at hg
   have:=h.get t u ht hg
   simp only[Act.put,WI]at this ⊢
   rw[Array.getElem?_setIfInBounds_ne e1]
   exact this
abbrev iG:=Exit->Tm->World->Prop
def lift(n:Nat)(K:iG):Exit->Act->World->Prop
 |.panic _,_,_=>False
 |.outgrown,_,_=>False
 |x,a,w=>∃e,Fits n e a/\K x e w
variable{P:Program}{n:Nat}{K:iG}{e:Tm}{w:World}
def C(P:Program)(n:Nat)(c:Code)(K:iG)(e:Tm)(w:World):Prop:=∀a,Fits n e a->c.wp P (lift n K) a w
def jU(k:Tm->World->Prop)(K:iG):iG
 |.normal,e,w=>k e w
 |x,e,w=>K x e w
def kP(id:Nat)(K:iG):iG
 |.exit i,e,w=>bif Nat.beq i id then K .normal e w else K (.exit i) e w
 |x,e,w=>K x e w
theorem sq{x y:Code}(h:C P n x (jU (C P n y K) K) e w):C P n (.seq x y) K e w:=λa ha=>by
 refine wp_seq (wp_mono (h a ha) ?_)
 intro ex a w hq
 cases ex<;>simp only[lift,jU,Exit.then]at hq ⊢<;>first|exact hq|(obtain⟨e1,h1,h2⟩:=hq;exact h2 _ h1)
theorem nx{k:Tm->World->Prop}(h:k e w):jU k K .normal e w:=h
theorem bk{id:Nat}{c:Code}(h:C P n c (kP id K) e w):C P n (.block id c) K e w:=λa ha=>by
 refine wp_block (wp_mono (h a ha) ?_)
 intro ex a w hq
 cases ex<;>simp only[lift,kP,Exit.inBlock]at hq ⊢<;>try exact hq
 rename_i i
 obtain⟨e1,h1,h2⟩:=hq
 by_cases hi:i=id
 ·subst hi;rw[Nat.beq_refl]at h2;rw[if_pos rfl];exact⟨e1,h1,h2⟩
 ·rw[if_neg hi]
  have:Nat.beq i id=false:=by cases hb:Nat.beq i id with
   |true=>exact absurd (QN hb) hi
   |false=>rfl
  rw[this]at h2;exact⟨e1,h1,h2⟩
theorem cd{c:Operand}{x y:Code}{b:Bool}(hc:ev n e c=some (.bool b))(ht:b=true->C P n x K e w)(hf:b=false->C P n y K e w):C P n (.cond c x y) K e w:=λa ha=>
 wp_cond_split (ha.eval hc) (λh=>ht h a ha) (λh=>hf h a ha)
theorem cT{c:Operand}{x y:Code}(hc:ev n e c=some (.bool true))(h:C P n x K e w):C P n (.cond c x y) K e w:=λa ha=>wp_cond_true (ha.eval hc) (h a ha)
theorem cF{c:Operand}{x y:Code}(hc:ev n e c=some (.bool false))(h:C P n y K e w):C P n (.cond c x y) K e w:=λa ha=>wp_cond_false (ha.eval hc) (h a ha)
theorem ct{c:Operand}{x y:Code}{b:Bool}(hc:ev n e c=some (.bool b))(hb:b=true)(h:C P n x K e w):C P n (.cond c x y) K e w:=by subst hb;exact cT hc h
theorem cf{c:Operand}{x y:Code}{b:Bool}(hc:ev n e c=some (.bool b))(hb:b=false)(h:C P n y K e w):C P n (.cond c x y) K e w:=by subst hb;exact cF hc h
theorem sk(h:K .normal e w):C P n .skip K e w:=λa ha=>wp_skip ⟨e,ha,h⟩
theorem xt{id:Nat}(h:K (.exit id) e w):C P n (.exit id) K e w:=λa ha=>wp_exit ⟨e,ha,h⟩
theorem rt(h:K .ret e w):C P n .ret K e w:=λa ha=>wp_ret ⟨e,ha,h⟩
def Sub(n:Nat)(e:Tm):Tm->Prop
 |.n=>True
 |.c t v r=>ev n e (.tmp t)=some v/\Sub n e r
theorem Sub.get{e:Tm}:∀{e':Tm},Sub n e e'->∀t v,t<n->Tm.get e' t=some v->Tm.get e t=some v
 |.n,_,t,v,_,h=>by cases h
 |.c t0 v0 r,hs,t,v,ht,h=>by
  unfold Tm.get at h
  cases hb:Nat.beq t0 t with
  |false=>rw[hb]at h;exact Sub.get hs.2 t v ht h
  |true=>
   rw[hb]at h
   simp only[xM,xF]at h
   have h1:=hs.1
   have e1:t0=t:=QN hb
   rw[e1,h]at h1
   exact(Ts h1).2
theorem Fits.sub{e e':Tm}{a:Act}(h:Fits n e a)(hs:Sub n e e'):Fits n e' a:=⟨h.size,h.defers,λt v ht hg=>h.get t v ht (hs.get t v ht hg)⟩
theorem C.sub{c:Code}{e':Tm}(hs:Sub n e e')(h:C P n c K e' w):C P n c K e w:=λa ha=>h a (ha.sub hs)
theorem least{p:Nat->Prop}:∀(k:Nat),p k->∃m,p m/\∀j,p j->m<=j:=by
 intro k
 induction k using Nat.strongRecOn with
 |_ k ih=>
  intro hk
  by_cases h:∃j,j<k/\p j
  ·obtain⟨j,h1,h2⟩:=h;exact ih j h1 h2
  ·exact⟨k,hk,λj hj=>Nat.le_of_not_lt λhl=>h ⟨j,hl,hj⟩⟩
open Classical in
noncomputable def Gn (p:Nat->Prop):Nat:=if h:∃k,p k then(least (p:=p) h.choose h.choose_spec).choose else 0
theorem Ad{p:Nat->Prop}(h:∃k,p k):p (Gn p)/\∀j,p j->Gn p<=j:=by
 unfold Gn;rw[dif_pos h];exact(least (p:=p) h.choose h.choose_spec).choose_spec
theorem lp{α:Type}{c:Code}(E:α->Tm)(I:α->World->Prop)(m:α->Nat)(x:α)(hs:Sub n e (E x))(hI:I x w)
  (k:∀x w,I x w->C P n c (jU (λe w=>∃y,Sub n e (E y)/\I y w/\m y<m x) K) (E x) w):C P n (.loop c) K e w:=λa ha=>by
 refine wp_loop (I:=λa w=>∃k x,m x=k/\Fits n (E x) a/\I x w) (μ:=λa w=>Gn λk=>∃x,m x=k/\Fits n (E x) a/\I x w) ⟨_,x,rfl,ha.sub hs,hI⟩ ?_
 intro a w hx
 obtain⟨⟨x0,h0,h1,h2⟩,_⟩:=Ad hx
 refine wp_mono (k x0 w h2 a h1) ?_
 intro ex a' w' hq
 cases ex<;>simp only[lift,jU,Exit.then]at hq ⊢<;>try exact hq
 obtain⟨e1,f1,y,g1,g2,g3⟩:=hq
 have hy:∃x,m x=m y/\Fits n (E x) a'/\I x w':=⟨y,rfl,f1.sub g1,g2⟩
 refine⟨⟨_,hy⟩,?_⟩
 have:=(Ad (p:=λk=>∃x,m x=k/\Fits n (E x) a'/\I x w') ⟨_,hy⟩).2 _ hy
 omega
def gB(P:Program)(ops:Array Oper)(Q:Exit->Act->World->Prop):List Oper->Act->World->Prop
 |[],a,w=>Q .normal a w
 |o::rest,a,w=>if Region.wanted o (yielded ops a.tmps)then o.wp P a w (gB P ops Q rest) Q else gB P ops Q rest (a.put o.dst undef) w
theorem Qt{ops:Array Oper}{Q:Exit->Act->World->Prop}:∀(l:List Oper) (i:Nat) (a:Act) (w:World),ops.toList.drop i=l->gB P ops Q l a w->wpOps P ops Q (List.range' i l.length) a w
 |[],i,a,w,_,h=>h
 |o::l,i,a,w,hd,h=>by
  have ho:ops[i]?=some o:=by
   rw[<- Array.getElem?_toList]
   have h0:(ops.toList.drop i)[0]?=some o:=by rw[hd];rfl
   rwa [KQ,Nat.add_zero]at h0
  have hd':ops.toList.drop (i+1)=l:=by rw[<- List.drop_drop,hd];rfl
  rw[QR,List.range'_succ]
  unfold wpOps
  rw[ho]
  unfold gB at h
  dsimp only
  split
  ·rename_i hw
   rw[if_pos hw]at h
   exact .inl (Oper.wp_mono (λa w hh=>Qt l (i+1) a w hd' hh) h)
  ·rename_i hw
   rw[if_neg hw]at h
   exact Qt l (i+1) _ w hd' h
def X(P:Program)(n:Nat)(ops:Array Oper)(l:List Oper)(K:iG)(e:Tm)(w:World):Prop:=∀a,Fits n e a->gB P ops (lift n K) l a w
variable{ops:Array Oper}{l:List Oper}
theorem rg{id:Nat}(h:X P n ops ops.toList K e w):C P n (.region id ops false) K e w:=λa ha=>
 wp_region (by
  have:=Qt ops.toList 0 a w (by simp) (h a ha)
  rw[List.range_eq_range']
  simpa using this)
theorem xe(h:K .normal e w):X P n ops [] K e w:=λa ha=>⟨e,ha,h⟩
def Y(P:Program)(n:Nat)(e:Tm)(o:Oper)(w:World)(v:Value)(w':World):Prop:=∀a,Fits n e a->(execOp a.eval o).run P w=.ok (.value v) w'
def U(P:Program)(n:Nat)(e:Tm)(o:Oper)(w:World)(w':World):Prop:=∀a,Fits n e a->(execOp a.eval o).run P w=.ok .skip w'
theorem nH{o:Oper}{y:Nat->Option Bool}(h:o.guard=none):Region.wanted o y=true:=by unfold Region.wanted;rw[h]
theorem st{o:Oper}{v:Value}{w':World}(y:Y P n e o w v w')(k:X P n ops l K (Tm.put e o.dst v) w')(hg:o.guard=none:=by rfl):X P n ops (o::l) K e w:=λa ha=>by
 unfold gB;rw[if_pos (nH hg)];unfold Oper.wp;rw[y a ha];exact k _ (ha.put _ _)
theorem su{o:Oper}{w':World}(y:U P n e o w w')(k:X P n ops l K (Tm.put e o.dst undef) w')(hg:o.guard=none:=by rfl):X P n ops (o::l) K e w:=λa ha=>by
 unfold gB;rw[if_pos (nH hg)];unfold Oper.wp;rw[y a ha];exact k _ (ha.put _ _)
def lA(P:Program)(f:FuncId):Prop:=∀(args:Array Value) (w:World),(callFunc f args).run P w=.ok (.enter f args) w
def Ca(P:Program)(n:Nat)(e:Tm)(o:Oper)(w:World)(f:FuncId)(args:Array Value):Prop:=∀a,Fits n e a->(execOp a.eval o).run P w=.ok (.enter f args) w
theorem cl{o:Oper}{f:FuncId}{args:Array Value}(c:Ca P n e o w f args)(k:Calls P f args w λx w'=>∃v,x=.returned v/\X P n ops l K (Tm.put e o.dst v) w')(hg:o.guard=none:=by rfl):X P n ops (o::l) K e w:=λa ha=>by
 unfold gB;rw[if_pos (nH hg)];unfold Oper.wp;rw[c a ha]
 refine k.mono ?_
 rintro _ w' ⟨v,rfl,h⟩
 exact h _ (ha.put _ _)
def wpS(P:Program)(ops:Array Oper)(Q:Exit->Act->World->Prop)(S:World->Prop):List (Oper×Bool)->Act->World->Prop
 |[],a,w=>Q .normal a w
 |(o,true)::rest,a,w=>∃v,YieldsIf P ops S o v a/\wpS P ops Q S rest (a.put o.dst v) w
 |(o,false)::rest,a,w=>if Region.wanted o (yielded ops a.tmps)then o.wp P a w (λa w=>S w/\wpS P ops Q S rest a w) Q else wpS P ops Q S rest (a.put o.dst undef) w
def QO(ops:Array Oper):List (Nat×Bool)->Array Bool->Bool
 |[],listed=>Region.ready .any ops listed==[]
 |(i,true)::is,listed=>Region.free .any ops listed i&&(Region.ready .any ops listed).contains i&&QO ops is (listed.setIfInBounds i true)
 |(i,false)::is,listed=>Region.ready .any ops listed==[i]&&QO ops is (listed.setIfInBounds i true)
def opsOf(ops:Array Oper)(is:List (Nat×Bool)):List (Oper×Bool):=is.map λp=>(ops.getD p.1 default,p.2)
theorem vU{Q:Exit->Act->World->Prop}{S:World->Prop}(hs:Region.noSelect ops=true)(hQ:∀c a w,¬Q (.panic c) a w):∀(is:List (Nat×Bool)) (listed:Array Bool) (a:Act) (w:World),
  QO ops is listed=true->(∀p∈is,p.1<ops.size)->S w->wpS P ops Q S (opsOf ops is) a w->wpAnyH P .any ops Q S is.length listed a w
 |[],listed,a,w,hc,_,_,h=>wpAnyH_done (by simpa[QO]using hc) h 0
 |(i,true)::is,listed,a,w,hc,hi,hS,h=>by
  simp only[QO,Qb]at hc
  obtain⟨v,h1,h2⟩:=h
  have hlt:i<ops.size:=hi (i,true) (by simp)
  have hd:ops.getD i default=ops[i]:=by simp[Array.getD,hlt]
  have ho:ops[i]?=some (ops.getD i default):=by rw[hd];simp[hlt]
  exact wpAnyH_take ho hs hc.1.1 hc.1.2 (λc a w hq=>absurd hq (hQ _ _ _)) h1 hS (vU hs hQ is _ _ _ hc.2 (λp hp=>hi p (by simp[hp])) hS h2)
 |(i,false)::is,listed,a,w,hc,hi,hS,h=>by
  simp only[QO,Qb,mQ]at hc
  have hlt:i<ops.size:=hi (i,false) (by simp)
  have hd:ops.getD i default=ops[i]:=by simp[Array.getD,hlt]
  have ho:ops[i]?=some (ops.getD i default):=by rw[hd];simp[hlt]
  have hi':∀p∈is,p.1<ops.size:=λp hp=>hi p (by simp[hp])
  refine wpAnyH_all hc.1 (by simp) ?_
  intro j hj
  have hj:j=i:=by simpa using hj
  rw[hj]
  clear hj
  unfold wpOp
  rw[ho]
  dsimp only
  unfold opsOf at h
  rw[GL]at h
  unfold wpS at h
  dsimp only at h
  by_cases hw:Region.wanted (ops.getD i default) (yielded ops a.tmps)=true
  ·rw[if_pos hw]at h ⊢
   exact .inl (Oper.wp_mono (λa w hh=>⟨hh.1,vU hs hQ is _ _ _ hc.2 hi' hh.1 hh.2⟩) h)
  ·rw[if_neg hw]at h ⊢
   exact⟨hS,vU hs hQ is _ _ _ hc.2 hi' hS h⟩
def XS(P:Program)(n:Nat)(ops:Array Oper)(S:World->Prop)(l:List (Oper×Bool))(K:iG)(e:Tm)(w:World):Prop:=∀a,Fits n e a->wpS P ops (lift n K) S l a w
variable{S:World->Prop}{ls:List (Oper×Bool)}
def Ps(P:Program)(ops:Array Oper)(is:List (Nat×Bool)):Bool:=
 P.follows .mixedOrders&&Region.noSelect ops&&(is.all λp=>Nat.blt p.1 ops.size)&&is.length==ops.size&&QO ops is (Array.replicate ops.size false)
theorem dr(S:World->Prop)(is:List (Nat×Bool)){id:Nat}(hc:Ps P ops is=true)(hS:S w.drew)(h:XS P n ops S (opsOf ops is) K e w.drew):C P n (.region id ops true) K e w:=λa ha=>by
 simp only[Ps,Qb,mQ,wB]at hc
 obtain⟨⟨⟨⟨h1,h2⟩,h3⟩,h4⟩,h5⟩:=hc
 refine wp_region_held (S:=S) h1 ?_
 have:=vU (P:=P) (Q:=lift n K) (S:=S) h2 (λc a w hq=>hq) is _ a w.drew h5 (λp hp=>iU.1 (h3 p hp)) hS (h a ha)
 rw[h4]at this
 exact this
theorem xz(h:K .normal e w):XS P n ops S [] K e w:=λa ha=>⟨e,ha,h⟩
theorem tk{o:Oper}{v:Value}(y:∀W,S W->Y P n e o W v W)(k:XS P n ops S ls K (Tm.put e o.dst v) w)(hg:o.guard=none:=by rfl):XS P n ops S ((o,true)::ls) K e w:=λa ha=>
 ⟨v,.inl ⟨nH hg,λW hW=>y W hW a ha⟩,k _ (ha.put _ _)⟩
theorem ef{o:Oper}{v:Value}{w':World}(y:Y P n e o w v w')(hS:S w')(k:XS P n ops S ls K (Tm.put e o.dst v) w')(hg:o.guard=none:=by rfl):XS P n ops S ((o,false)::ls) K e w:=λa ha=>by
 unfold wpS;rw[if_pos (nH hg)];unfold Oper.wp;rw[y a ha];exact⟨hS,k _ (ha.put _ _)⟩
theorem eu{o:Oper}{w':World}(y:U P n e o w w')(hS:S w')(k:XS P n ops S ls K (Tm.put e o.dst undef) w')(hg:o.guard=none:=by rfl):XS P n ops S ((o,false)::ls) K e w:=λa ha=>by
 unfold wpS;rw[if_pos (nH hg)];unfold Oper.wp;rw[y a ha];exact⟨hS,k _ (ha.put _ _)⟩
theorem cs{o:Oper}{f:FuncId}{args:Array Value}(c:Ca P n e o w f args)(k:Calls P f args w λx w'=>∃v,x=.returned v/\S w'/\XS P n ops S ls K (Tm.put e o.dst v) w')(hg:o.guard=none:=by rfl):XS P n ops S ((o,false)::ls) K e w:=λa ha=>by
 unfold wpS;rw[if_pos (nH hg)];unfold Oper.wp;rw[c a ha]
 refine k.mono ?_
 rintro _ w' ⟨v,rfl,hS,h⟩
 exact⟨hS,h _ (ha.put _ _)⟩
theorem Gj{o:Oper}{a:Act}{j t:Nat}{b c:Bool}(hg:o.guard=some (j,c))(hj:(ops[j]?).bind (·.dst)=some t)(ha:Fits n e a)(ht:ev n e (.tmp t)=some (.bool b)):Region.wanted o (yielded ops a.tmps)=(b==c):=by
 unfold Region.wanted
 rw[hg]
 have hlt:t<n:=(Ts ht).1
 have h1:a.tmps.getD t undef=.bool b:=by
  have:=ha.eval ht;exact this
 have h2:a.tmps[t]?=some (.bool b):=by
  have hs:=ha.size
  rw[WI,CL (by omega)]at h1
  rw[CL (by omega)]
  exact congrArg some h1
 dsimp only
 unfold yielded
 rw[hj,Option.bind_some,h2]
 cases b<;>cases c<;>rfl
variable{d:Option Tmp}{op:Op}{ty:TypeId}{ps:String}{af:Array Edge}
theorem gT{j t:Nat}{b c:Bool}(hj:(ops[j]?).bind (·.dst)=some t)(ht:ev n e (.tmp t)=some (.bool b))(hb:b=c)(k:X P n ops (⟨d,op,ty,ps,af,none⟩::l) K e w):X P n ops (⟨d,op,ty,ps,af,some (j,c)⟩::l) K e w:=λa ha=>by
 have h:=k a ha
 unfold gB at h ⊢
 rw[if_pos (by rw[Gj (o:=⟨d,op,ty,ps,af,some (j,c)⟩) rfl hj ha ht,hb];simp)]
 rw[if_pos (nH rfl)]at h
 exact h
theorem gF{j t:Nat}{b c:Bool}(hj:(ops[j]?).bind (·.dst)=some t)(ht:ev n e (.tmp t)=some (.bool b))(hb:b=!c)(k:X P n ops l K (Tm.put e d undef) w):X P n ops (⟨d,op,ty,ps,af,some (j,c)⟩::l) K e w:=λa ha=>by
 unfold gB
 rw[if_neg (by rw[Gj (o:=⟨d,op,ty,ps,af,some (j,c)⟩) rfl hj ha ht,hb];cases c<;>simp)]
 exact k _ (ha.put _ _)
theorem oX{j t:Nat}{b c f:Bool}(hj:(ops[j]?).bind (·.dst)=some t)(ht:ev n e (.tmp t)=some (.bool b))(hb:b=c)(k:XS P n ops S ((⟨d,op,ty,ps,af,none⟩,f)::ls) K e w):XS P n ops S ((⟨d,op,ty,ps,af,some (j,c)⟩,f)::ls) K e w:=λa ha=>by
 have h:=k a ha
 have hw:Region.wanted (⟨d,op,ty,ps,af,some (j,c)⟩:Oper) (yielded ops a.tmps)=true:=by rw[Gj (o:=⟨d,op,ty,ps,af,some (j,c)⟩) rfl hj ha ht,hb];simp
 cases f with
 |true=>
  obtain⟨v,h1,h2⟩:=h
  refine⟨v,.inl ⟨hw,?_⟩,h2⟩
  rcases h1 with⟨_,h1⟩|⟨h1,_⟩
  ·exact h1
  ·rw[nH rfl]at h1;cases h1
 |false=>
  unfold wpS at h ⊢
  rw[if_pos hw]
  rw[if_pos (nH rfl)]at h
  exact h
theorem Ez{j t:Nat}{b c f:Bool}(hj:(ops[j]?).bind (·.dst)=some t)(ht:ev n e (.tmp t)=some (.bool b))(hb:b=!c)(k:XS P n ops S ls K (Tm.put e d undef) w):XS P n ops S ((⟨d,op,ty,ps,af,some (j,c)⟩,f)::ls) K e w:=λa ha=>by
 have hw:Region.wanted (⟨d,op,ty,ps,af,some (j,c)⟩:Oper) (yielded ops a.tmps)=false:=by rw[Gj (o:=⟨d,op,ty,ps,af,some (j,c)⟩) rfl hj ha ht,hb];cases c<;>simp
 cases f with
 |true=>exact⟨undef,.inr ⟨hw,rfl⟩,k _ (ha.put _ _)⟩
 |false=>
  unfold wpS
  rw[if_neg (by rw[hw];simp)]
  exact k _ (ha.put _ _)
variable{k':Tm->World->Prop}
theorem tx{i:Nat}(h:K (.exit i) e w):jU k' K (.exit i) e w:=h
theorem tr(h:K .ret e w):jU k' K .ret e w:=h
theorem bn{i:Nat}(h:K .normal e w):kP i K .normal e w:=h
theorem be{i:Nat}(h:K .normal e w):kP i K (.exit i) e w:=by show (bif Nat.beq i i then _ else _);rw[Nat.beq_refl];exact h
theorem bo{i j:Nat}(hb:Nat.beq j i=false)(h:K (.exit j) e w):kP i K (.exit j) e w:=by show (bif Nat.beq j i then _ else _);rw[hb];exact h
theorem bt{i:Nat}(h:K .ret e w):kP i K .ret e w:=h
theorem sm{x y:Code}(M:Tm->World->Prop)(h:C P n x (jU M K) e w)(h2:∀e w,M e w->C P n y K e w):C P n (.seq x y) K e w:=λa ha=>by
 refine wp_seq (wp_mono (h a ha) ?_)
 intro ex a w hq
 cases ex<;>simp only[lift,jU,Exit.then]at hq ⊢<;>first|exact hq|(obtain⟨e1,h3,h4⟩:=hq;exact h2 _ _ h4 _ h3)
def dec:List Nat->List (Nat×Bool)
 |[]=>[]
 |i::l=>(i/2,Nat.beq (i%2) 1)::dec l
def jT(P:Program)(fn:Func)(n:Nat)(e:Tm)(w:World)(v:Value):Prop:=∀a,Fits n e a->(results fn a.tmps).run P w=.ok v w
def fin(P:Program)(fn:Func)(n:Nat)(R:Ending->World->Prop):iG
 |.normal,e,w=>∃v,jT P fn n e w v/\R (.returned v) w
 |.ret,e,w=>∃v,jT P fn n e w v/\R (.returned v) w
 |_,_,_=>False
def Gw:Nat->List Value->Tm
 |_,[]=>.n
 |i,v::l=>.c i v (Gw (i+1) l)
theorem Jd:∀(l:List Value) (i t:Nat) (v:Value),Tm.get (Gw i l) t=some v->i<=t/\l[t-i]?=some v
 |[],_,_,_,h=>by cases h
 |u::l,i,t,v,h=>by
  unfold Gw Tm.get at h
  cases hb:Nat.beq i t with
  |true=>
   have e1:i=t:=QN hb
   subst e1
   rw[hb]at h
   simp only[xM,xF]at h
   exact⟨JV _,by simp[h]⟩
  |false=>
   rw[hb]at h
   obtain⟨h1,h2⟩:=Jd l (i+1) t v h
   refine⟨by omega,?_⟩
   rw[show t-i=(t-(i+1))+1 by omega,bD]
   exact h2
theorem Ea{f:FuncId}{fn:Func}{c:Code}{args:List Value}{R:Ending->World->Prop}(hf:P.funcs[f]?=some fn)(hb:fn.body=some c)(hn:fn.ntmps=n)(ha:Nat.ble args.length n=true)
  (h:C P n c (fin P fn n R) (Gw 0 args) w):Calls P f args.toArray w R:=by
 subst hn
 refine calls_of_wp hf hb (wp_mono (h _ ⟨?_,rfl,?_⟩) ?_)
 ·have:=Nat.le_of_ble_eq_true ha;simp;omega
 ·intro t v ht hg
  obtain⟨_,h2⟩:=Jd args 0 t v hg
  rw[Nat.sub_zero]at h2
  have hl:=(List.getElem?_eq_some_iff.1 h2).1
  simp only[WI]
  rw[Array.getElem?_append_left (by simpa using hl),List.getElem?_toArray,h2]
  rfl
 ·intro ex a w hq
  cases ex<;>simp only[lift,fin]at hq<;>try exact hq.elim
  all_goals first
   |(obtain⟨e,h1,v,h2,h3⟩:=hq;exact⟨h1.defers,v,h2 a h1,h3⟩)
   |(obtain⟨e,h1,h2⟩:=hq;exact h2.elim)
theorem jP{fn:Func}{t:Nat}{v:Value}(hr:fn.results=#[.tmp t])(hv:ev n e (.tmp t)=some v):jT P fn n e w v:=λa ha=>by
 have h1:a.tmps.getD t undef=v:=ha.eval hv
 rw[results_tmp hr,h1]
theorem rK{fn:Func}(hr:fn.results=#[]):jT P fn n e w (.tuple #[]):=λa ha=>results_none hr _ _ _
theorem gE{fn:Func}{t u:Nat}{v v':Value}(hr:fn.results=#[.tmp t,.tmp u])(hv:ev n e (.tmp t)=some v)(hv':ev n e (.tmp u)=some v'):jT P fn n e w (.tuple #[v,v']):=λa ha=>by
 have h1:a.tmps.getD t undef=v:=ha.eval hv
 have h2:a.tmps.getD u undef=v':=ha.eval hv'
 rw[results_tmp2 hr,h1,h2]
def isRow:TypeDesc->Bool
 |.struct _=>true
 |.array _ _=>true
 |_=>false
def xA(P:Program)(t:TypeId):Option Nat:=
 match P.underlying t with
 |some d=>bif isRow d then(P.info? t).map (·.size)else none
 |none=>none
theorem Da{t:TypeId}{k:Nat}(h:xA P t=some k):∃d,P.underlying t=some d/\isRow d=true/\(P.info? t).map (·.size)=some k:=by
 unfold xA at h
 cases hd:P.underlying t with
 |none=>rw[hd]at h;cases h
 |some d=>
  rw[hd]at h
  dsimp only at h
  cases hb:isRow d with
  |false=>rw[hb]at h;cases h
  |true=>rw[hb]at h;exact⟨d,rfl,hb,h⟩
theorem SN{t u:TypeId}{g:Nat}{cs:List Value}(hR:xA P t=some cs.length)(hg:w.heap[g]?=some (.cells cs.toArray u (0,0))):(loadVar t ⟨g,0,none⟩).run P w=.ok (.agg cs.toArray) w:=by
 obtain⟨d,h1,h2,h3⟩:=Da hR
 exact run_loadVar_row w g u t cs.toArray (0,0) d hg h1 (by cases d<;>first|rfl|cases h2) (by simpa using h3)
theorem bP{fn:Func}{t:Nat}{ty u:TypeId}{g:Nat}{cs:List Value}(hr:fn.results=#[.cell t ty])(hp:ev n e (.tmp t)=some (.pointer (some ⟨g,0,none⟩)))(hg:w.heap[g]?=some (.cells cs.toArray u (0,0)))(hR:xA P ty=some cs.length):jT P fn n e w (.agg cs.toArray):=λa ha=>by
 obtain⟨d,h1,h2,h3⟩:=Da hR
 exact results_cell_row hr a.tmps w g u cs.toArray (0,0) d (ha.eval hp) hg h1 (by cases d<;>first|rfl|cases h2) (by simpa using h3)
theorem cL{fn:Func}{t s:Nat}{ty u:TypeId}{g:Nat}{cs:List Value}{v:Value}(hr:fn.results=#[.cell t ty,.tmp s])(hp:ev n e (.tmp t)=some (.pointer (some ⟨g,0,none⟩)))(hg:w.heap[g]?=some (.cells cs.toArray u (0,0)))(hR:xA P ty=some cs.length)
  (hv:ev n e (.tmp s)=some v):jT P fn n e w (.tuple #[.agg cs.toArray,v]):=λa ha=>by
 have h4:a.tmps.getD s undef=v:=ha.eval hv
 have h5:a.tmps.getD t undef=_:=ha.eval hp
 rw[results_cell_tmp hr,h4,h5]
 have h6:=SN (P:=P) hR hg
 simp[asAddr,Result.andThen,h6]
theorem rr{fn:Func}{R:Ending->World->Prop}{v:Value}(hr:jT P fn n e w v)(h:R (.returned v) w):fin P fn n R .ret e w:=⟨v,hr,h⟩
theorem rn{fn:Func}{R:Ending->World->Prop}{v:Value}(hr:jT P fn n e w v)(h:R (.returned v) w):fin P fn n R .normal e w:=⟨v,hr,h⟩
end Go.E
end
namespace Go.Q9
theorem O6{P:Program}{f:FuncId}{F:Func}(h:P.funcs[f]?=some F)(k:(F.name== "runtime.NumGoroutine")=false)(b:F.body.isNone=false):Go.E.lA P f:=fun _ _=>by simp only[callFunc,Sem.run_bind,run_program,Result.andThen_ok];rw[h];dsimp only;rw[k,b];rfl
end Go.Q9
