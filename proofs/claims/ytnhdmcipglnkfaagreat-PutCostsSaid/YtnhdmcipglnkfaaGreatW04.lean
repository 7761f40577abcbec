/- Parts of a proof: E9, E10, E11, E12, E13. -/
import Derived.Test.YtnhdmcipglnkfaaGreatW03
import Derived.Laws.CopyOwn
set_option linter.unusedVariables false
set_option linter.unusedSimpArgs false
set_option maxRecDepth 100000
set_option maxHeartbeats 4000000
section
namespace Go.E
variable{P:Program}{n:Nat}{K:kG}{e:Tm}{w:World}{ops:Array Oper}{l:List Oper}{S:World->Prop}{ls:List (Oper×Bool)}{B:World}{L L':List As}
def MW(ops:Array Oper)(i j:Nat)(q1 q2:List (Nat×Bool)):List (Nat×Bool)->Array Bool->Bool
 |[],listed=>(Region.ready .any ops listed==[i,j])&&P0 ops q1 (listed.setIfInBounds i true)&&P0 ops q2 (listed.setIfInBounds j true)
 |(k,true)::is,listed=>Region.free .any ops listed k&&(Region.ready .any ops listed).contains k&&MW ops i j q1 q2 is (listed.setIfInBounds k true)
 |(k,false)::is,listed=>(Region.ready .any ops listed==[k])&&MW ops i j q1 q2 is (listed.setIfInBounds k true)
def bK(P:Program)(n:Nat)(ops:Array Oper)(S:World->Prop)(i j:Nat)(q1 q2:List (Nat×Bool))(K:kG):kG
 |.normal,e,w=>XS P n ops S (opsOf ops ((i,false)::q1)) K e w/\XS P n ops S (opsOf ops ((j,false)::q2)) K e w
 |x,e,w=>K x e w
theorem SK(hs:Region.noSelect ops=true){i:Nat}{q:List (Nat×Bool)}{listed:Array Bool}{a:Act}{w:World}(hi:i<ops.size)(hq:∀p∈q,p.1<ops.size)(hc:P0 ops q (listed.setIfInBounds i true)=true)(hS:S w)
  (h:wpS P ops (lift n K) S (opsOf ops ((i,false)::q)) a w):wpOp P ops (lift n K) i (λa' w'=>S w'/\wpAnyH P .any ops (lift n K) S q.length (listed.setIfInBounds i true) a' w') a w:=by
 have hd:ops.getD i default=ops[i]:=by simp[Array.getD,hi]
 have ho:ops[i]?=some (ops.getD i default):=by rw[hd];simp[hi]
 unfold wpOp
 rw[ho]
 dsimp only
 unfold opsOf at h
 rw[KP]at h
 unfold wpS at h
 dsimp only at h
 by_cases hw:Region.wanted (ops.getD i default) (yielded ops a.tmps)=true
 ·rw[if_pos hw]at h ⊢
  exact .inl (Oper.wp_mono (λa w hh=>⟨hh.1,An hs (λc a w hq=>hq) q _ _ _ hc hq hh.1 hh.2⟩) h)
 ·rw[if_neg hw]at h ⊢
  exact⟨hS,An hs (λc a w hq=>hq) q _ _ _ hc hq hS h⟩
theorem QT{i j:Nat}{q1 q2:List (Nat×Bool)}(hs:Region.noSelect ops=true)(hi:i<ops.size)(hj:j<ops.size)(h1:∀p∈q1,p.1<ops.size)(h2:∀p∈q2,p.1<ops.size)(hl:q2.length=q1.length):∀(is:List (Nat×Bool)) (listed:Array Bool) (a:Act) (w:World),
  MW ops i j q1 q2 is listed=true->(∀p∈is,p.1<ops.size)->S w->wpS P ops (lift n (bK P n ops S i j q1 q2 K)) S (opsOf ops is) a w->wpAnyH P .any ops (lift n K) S (is.length+1+q1.length) listed a w
 |[],listed,a,w,hc,_,hS,h=>by
  simp only[MW,pM,Ae]at hc
  obtain⟨e,g1,g2,g3⟩:=h
  rw[show ([]:List (Nat×Bool)).length+1+q1.length=q1.length+1 by simp;omega]
  refine wpAnyH_all hc.1.1 (by simp) ?_
  intro k hk
  rcases List.mem_cons.1 hk with hk|hk
  ·subst hk
   exact SK hs hi h1 hc.1.2 hS (g2 a g1)
  ·have hk:k=j:=by simpa using hk
   subst hk
   have:=SK (listed:=listed) hs hj h2 hc.2 hS (g3 a g1)
   rw[hl]at this
   exact this
 |(k,true)::is,listed,a,w,hc,hb,hS,h=>by
  simp only[MW,pM]at hc
  obtain⟨v,g1,g2⟩:=h
  have hlt:k<ops.size:=hb (k,true) (by simp)
  have hd:ops.getD k default=ops[k]:=by simp[Array.getD,hlt]
  have ho:ops[k]?=some (ops.getD k default):=by rw[hd];simp[hlt]
  rw[show ((k,true)::is).length+1+q1.length=(is.length+1+q1.length)+1 by simp;omega]
  exact wpAnyH_take ho hs hc.1.1 hc.1.2 (λc a w hq=>hq.elim) g1 hS (QT hs hi hj h1 h2 hl is _ _ _ hc.2 (λp hp=>hb p (by simp[hp])) hS g2)
 |(k,false)::is,listed,a,w,hc,hb,hS,h=>by
  simp only[MW,pM,Ae]at hc
  have hlt:k<ops.size:=hb (k,false) (by simp)
  have hd:ops.getD k default=ops[k]:=by simp[Array.getD,hlt]
  have ho:ops[k]?=some (ops.getD k default):=by rw[hd];simp[hlt]
  have CU:∀p∈is,p.1<ops.size:=λp hp=>hb p (by simp[hp])
  rw[show ((k,false)::is).length+1+q1.length=(is.length+1+q1.length)+1 by simp;omega]
  refine wpAnyH_all hc.1 (by simp) ?_
  intro j' oU
  have oU:j'=k:=by simpa using oU
  rw[oU]
  clear oU
  unfold wpOp
  rw[ho]
  dsimp only
  unfold opsOf at h
  rw[KP]at h
  unfold wpS at h
  dsimp only at h
  by_cases hw:Region.wanted (ops.getD k default) (yielded ops a.tmps)=true
  ·rw[if_pos hw]at h ⊢
   exact .inl (wpQ (Q':=lift n (bK P n ops S i j q1 q2 K)) (λ_ _ _ h=>h) (λh=>h) (Oper.wp_mono (λa w hh=>⟨hh.1,QT hs hi hj h1 h2 hl is _ _ _ hc.2 CU hh.1 hh.2⟩) h))
  ·rw[if_neg hw]at h ⊢
   exact⟨hS,QT hs hi hj h1 h2 hl is _ _ _ hc.2 CU hS h⟩
def TO(P:Program)(ops:Array Oper)(is:List (Nat×Bool))(i j:Nat)(q1 q2:List (Nat×Bool)):Bool:=
 P.follows .mixedOrders&&Region.noSelect ops&&(is.all λp=>Nat.blt p.1 ops.size)&&Nat.blt i ops.size&&Nat.blt j ops.size&&(q1.all λp=>Nat.blt p.1 ops.size)&&(q2.all λp=>Nat.blt p.1 ops.size)&&q2.length==q1.length&&is.length+1+q1.length==ops.size&&MW ops i j q1 q2 is (Array.replicate ops.size false)
theorem drB{id:Nat}{F:List As}(is:List Nat)(i j:Nat)(q1 q2:List Nat)(hc:TO P ops (dec is) i j (dec q1) (dec q2)=true)(h:SH B w L)(p:∀w,SH B w L->Hs F w)(k:∀w,SH B w L->XS P n ops (Hs F) (opsOf ops (dec is)) (bK P n ops (Hs F) i j (dec q1) (dec q2) K) e w):C P n (.region id ops true) K e w:=λa ha=>by
 simp only[TO,pM,Ae,MY]at hc
 obtain⟨⟨⟨⟨⟨⟨⟨⟨⟨h1,h2⟩,h3⟩,h4⟩,h5⟩,h6⟩,h7⟩,h8⟩,h9⟩,N7⟩:=hc
 refine wp_region_held (S:=Hs F) h1 ?_
 have hd:=h.drew
 have:=QT (P:=P) (K:=K) (S:=Hs F) (n:=n) h2 (kY.1 h4) (kY.1 h5) (λp hp=>kY.1 (h6 p hp)) (λp hp=>kY.1 (h7 p hp)) h8 (dec is) _ a w.drew N7 (λp hp=>kY.1 (h3 p hp)) (p _ hd) (k _ hd a ha)
 rw[h9]at this
 exact this
theorem W3{i j:Nat}{q1 q2:List (Nat×Bool)}(h1:XS P n ops S (opsOf ops ((i,false)::q1)) K e w)(h2:XS P n ops S (opsOf ops ((j,false)::q2)) K e w):XS P n ops S [] (bK P n ops S i j q1 q2 K) e w:=xz ⟨h1,h2⟩
end Go.E
end
section
namespace Go.E
variable{P:Program}{n:Nat}{K:kG}{e:Tm}{w:World}{ops:Array Oper}{l:List Oper}{S:World->Prop}{ls:List (Oper×Bool)}{B:World}{L L':List As}
def qK(P:Program)(md:Region.Mode)(ops:Array Oper)(Q:Exit->Act->World->Prop)(S:World->Prop)(zs:List Nat):Nat->Array Bool->Act->World->Prop
 |0,listed,a,w=>Region.ready md ops listed=[]/\Q .normal a w
 |fuel+1,listed,a,w=>
  (Region.ready md ops listed=[]->Q .normal a w)/\
  ∀i∈Region.ready md ops listed,wpOp P ops Q i (λa' w'=>(zs.contains i=false->S w->S w')/\qK P md ops Q S zs fuel (listed.setIfInBounds i true) a' w') a w
variable{md:Region.Mode}{Q:Exit->Act->World->Prop}{zs:List Nat}
theorem Dy:∀(fuel:Nat) (listed:Array Bool) (a:Act) (w:World),qK P md ops Q S zs fuel listed a w->wpAny P md ops Q fuel listed a w
 |0,_,_,_,h=>h
 |fuel+1,_,_,_,h=>⟨h.1,λi hi=>wpOp_mono (λa' w' h'=>Dy fuel _ a' w' h'.2) (h.2 i hi)⟩
def Zs(ops:Array Oper)(i:Nat)(U:List Nat)(k:Nat):Bool:=match ops[k]? with
 |some o=>o.after.any λe=>Region.binds .any e&&(Nat.beq e.on i||U.contains e.on)
 |none=>false
def ups(ops:Array Oper)(i:Nat):List Nat:=(List.range ops.size).foldl (λU k=>if Zs ops i U k then k::U else U) []
theorem gd{l:Array Bool}{k:Nat}(h:l.getD k true=false):l.getD k false=false:=by
 rcases Gg k l.size with h'|h'
 ·simp[Zq4,h']at h ⊢;exact h
 ·simp[Zq4,Array.getElem?_eq_none h']at h
theorem FG{listed:Array Bool}{j:Nat}(h:j∈Region.ready md ops listed):∃o,ops[j]?=some o/\listed.getD j true=false/\∀e∈o.after,Region.binds md e=true->listed.getD e.on false=true:=by
 obtain⟨h1,o,ho,h2⟩:=mem_ready.1 h
 exact⟨o,ho,h1,h2⟩
structure MA(ops:Array Oper)(i:Nat)(U:List Nat)(listed:Array Bool):Prop where
 one:listed.getD i true=false
 all:∀k,U.contains k=true->listed.getD k true=false
 up:∀k,U.contains k=true->Zs ops i U k=true
theorem MA.not{i j:Nat}{U:List Nat}{listed:Array Bool}(h:MA ops i U listed)(hj:j∈Region.ready .any ops listed):U.contains j=false:=by
 cases hc:U.contains j with
 |false=>rfl
 |true=>
  obtain⟨o,ho,h1,h2⟩:=FG hj
  have h3:=h.up j hc
  unfold Zs at h3
  rw[ho]at h3
  obtain⟨k,hk,h4⟩:=Array.any_eq_true.1 h3
  simp only[pM,Bool.or_eq_true]at h4
  have h5:=h2 _ (Array.getElem_mem hk) h4.1
  rcases h4.2 with h6|h6
  ·rw[P4 h6,gd h.one]at h5;cases h5
  ·rw[gd (h.all _ h6)]at h5;cases h5
theorem MA.set{i j:Nat}{U:List Nat}{listed:Array Bool}(h:MA ops i U listed)(hj:j∈Region.ready .any ops listed)(xL:j≠i):MA ops i U (listed.setIfInBounds j true):=by
 have hn:=h.not hj
 refine⟨by rw[getD_set_ne true xL];exact h.one,λk hk=>?_,h.up⟩
 have:j≠k:=λe=>by rw[e,hk]at hn;cases hn
 rw[getD_set_ne true this];exact h.all k hk
theorem AD{i:Nat}{oi:Oper}{v:Value}{U:List Nat}(hi:ops[i]?=some oi)(hz:∀z,zs.contains z=true->U.contains z=true)(KD:∀(j:Nat) (o:Oper) cs b,ops[j]?=some o->o.op≠.select cs b)
  (hQ:∀c a w,Q (.panic c) (a.put oi.dst v) w->Q (.panic c) a w):
  ∀(fuel:Nat) (listed:Array Bool) (a:Act) (w:World),MA ops i U listed->
   (∀j oj,ops[j]?=some oj->j≠i->listed.getD j true=false->(∀e∈oj.after,Region.binds .any e=true->e.on≠i)->oi.apart ops oj=true)->
   i∈Region.ready .any ops listed->YieldsIf P ops S oi v a->S w->
   qK P .any ops Q S zs fuel (listed.setIfInBounds i true) (a.put oi.dst v) w->qK P .any ops Q S zs (fuel+1) listed a w:=by
 intro fuel
 induction fuel with
 |zero=>
  intro listed a w hH _ hr hy hS H
  refine⟨λh=>(by rw[h]at hr;cases hr),λj hj=>?_⟩
  by_cases Jv:j=i
  ·subst Jv;exact hy.wpOp hi hS ⟨λ_ h=>h,H⟩
  ·have:=ready_mono hj Jv
   rw[H.1]at this
   cases this
 |succ fuel ih=>
  intro listed a w hH Lm hr hy hS H
  refine⟨λh=>(by rw[h]at hr;cases hr),λj hj=>?_⟩
  by_cases Jv:j=i
  ·subst Jv;exact hy.wpOp hi hS ⟨λ_ h=>h,H⟩
  ·have h1:=H.2 j (ready_mono hj Jv)
   obtain⟨KI,oj,ZN,L8⟩:=mem_ready.1 hj
   have YW:∀e∈oj.after,Region.binds .any e=true->e.on≠i:=λe he hb heq=>by
    have h1:=L8 e he hb
    have h0:=(mem_ready.1 hr).1
    rw[heq]at h1
    rcases Gg i listed.size with h'|h'
    ·simp[h']at h0 h1;rw[h0]at h1;cases h1
    ·simp[Array.getElem?_eq_none h']at h1
   have hjz:zs.contains j=false:=by
    cases hc:zs.contains j with
    |false=>rfl
    |true=>have:=hz j hc;rw[hH.not hj]at this;cases this
   have h2:=wpOp_putIf ZN (Lm j oj ZN Jv KI YW) (λcs b=>KD i oi cs b hi) (λcs b=>KD j oj cs b ZN) hQ hy h1
   have Tu:∀k ok,ops[k]?=some ok->k≠i->(listed.setIfInBounds j true).getD k true=false->
     (∀e∈ok.after,Region.binds .any e=true->e.on≠i)->oi.apart ops ok=true:=λk ok hk hki hun hno=>by
    refine Lm k ok hk hki ?_ hno
    by_cases Em:j=k
    ·subst Em;exact KI
    ·rw[getD_set_ne true Em]at hun;exact hun
   refine wpOp_mono (λa' w' h3=>⟨h3.2.1,ih (listed.setIfInBounds j true) a' w' (hH.set hj Jv) Tu (ready_mono hr (Ne.symm Jv)) h3.1 (h3.2.1 hjz hS) ?_⟩) h2
   rw[Array.setIfInBounds_comm _ _ Jv]
   exact h3.2.2
theorem Va{i:Nat}{oi:Oper}{v:Value}(hi:ops[i]?=some oi)(KD:∀(j:Nat) (o:Oper) cs b,ops[j]?=some o->o.op≠.select cs b)
  (hQ:∀c a w,Q (.panic c) (a.put oi.dst v) w->Q (.panic c) a w):
  ∀(fuel:Nat) (listed:Array Bool) (a:Act) (w:World),
   (∀j oj,ops[j]?=some oj->j≠i->listed.getD j true=false->(∀e∈oj.after,Region.binds .any e=true->e.on≠i)->oi.apart ops oj=true)->
   i∈Region.ready .any ops listed->YieldsIf P ops (λ_=>True) oi v a->
   qK P .any ops Q S zs fuel (listed.setIfInBounds i true) (a.put oi.dst v) w->qK P .any ops Q S zs (fuel+1) listed a w:=by
 intro fuel
 induction fuel with
 |zero=>
  intro listed a w _ hr hy H
  refine⟨λh=>(by rw[h]at hr;cases hr),λj hj=>?_⟩
  by_cases Jv:j=i
  ·subst Jv;exact hy.wpOp hi trivial ⟨λ_ h=>h,H⟩
  ·have:=ready_mono hj Jv
   rw[H.1]at this
   cases this
 |succ fuel ih=>
  intro listed a w Lm hr hy H
  refine⟨λh=>(by rw[h]at hr;cases hr),λj hj=>?_⟩
  by_cases Jv:j=i
  ·subst Jv;exact hy.wpOp hi trivial ⟨λ_ h=>h,H⟩
  ·have h1:=H.2 j (ready_mono hj Jv)
   obtain⟨KI,oj,ZN,L8⟩:=mem_ready.1 hj
   have YW:∀e∈oj.after,Region.binds .any e=true->e.on≠i:=λe he hb heq=>by
    have h1:=L8 e he hb
    have h0:=(mem_ready.1 hr).1
    rw[heq]at h1
    rcases Gg i listed.size with h'|h'
    ·simp[h']at h0 h1;rw[h0]at h1;cases h1
    ·simp[Array.getElem?_eq_none h']at h1
   have h2:=wpOp_putIf ZN (Lm j oj ZN Jv KI YW) (λcs b=>KD i oi cs b hi) (λcs b=>KD j oj cs b ZN) hQ hy h1
   have Tu:∀k ok,ops[k]?=some ok->k≠i->(listed.setIfInBounds j true).getD k true=false->
     (∀e∈ok.after,Region.binds .any e=true->e.on≠i)->oi.apart ops ok=true:=λk ok hk hki hun hno=>by
    refine Lm k ok hk hki ?_ hno
    by_cases Em:j=k
    ·subst Em;exact KI
    ·rw[getD_set_ne true Em]at hun;exact hun
   refine wpOp_mono (λa' w' h3=>⟨h3.2.1,ih (listed.setIfInBounds j true) a' w' Tu (ready_mono hr (Ne.symm Jv)) h3.1 ?_⟩) h2
   rw[Array.setIfInBounds_comm _ _ Jv]
   exact h3.2.2
def Oz(ops:Array Oper)(zs:List Nat)(k:Bool->Array Bool->Bool)(c:Bool):List (Nat×Bool)->Bool->Array Bool->Bool
 |[],al,listed=>k al listed
 |(i,true)::is,al,listed=>(bif c then al&&(zs.all λz=>(ups ops i).contains z)&&(!listed.getD i true)&&((ups ops i).all λk=>Zs ops i (ups ops i) k&&!listed.getD k true)else true)&&
   Region.free .any ops listed i&&(Region.ready .any ops listed).contains i&&Oz ops zs k c is al (listed.setIfInBounds i true)
 |(i,false)::is,al,listed=>(bif c then al else zs.contains i)&&(Region.ready .any ops listed==[i])&&Oz ops zs k c is (al&&c) (listed.setIfInBounds i true)
def Yu(ops:Array Oper)(zs:List Nat):List (Bool×List (Nat×Bool))->Bool->Array Bool->Bool
 |[],_,listed=>Region.ready .any ops listed==[]
 |(c,is)::r,al,listed=>Oz ops zs (Yu ops zs r) c is al listed
def sS(S:World->Prop):Bool->World->Prop
 |true=>S
 |false=>λ_=>True
def sK(P:Program)(n:Nat)(ops:Array Oper)(S:World->Prop):List (Bool×List (Nat×Bool))->kG->kG
 |[],K=>K
 |(c,is)::r,K=>λx e w=>match x with
  |.normal=>XS P n ops (sS S c) (opsOf ops is) (sK P n ops S r K) e w
  |x=>K x e w
def tot:List (Bool×List (Nat×Bool))->Nat
 |[]=>0
 |(_,is)::r=>is.length+tot r
theorem Y7{c:Bool}{k:Bool->Array Bool->Bool}{m:Nat}{K':kG}(hs:Region.noSelect ops=true)
  (hk:∀al listed a w,k al listed=true->(al=true->S w)->lift n K' .normal a w->qK P .any ops (lift n K) S zs m listed a w):
  ∀(is:List (Nat×Bool)) (al:Bool) (listed:Array Bool) (a:Act) (w:World),Oz ops zs k c is al listed=true->(∀p∈is,p.1<ops.size)->(al=true->S w)->
   wpS P ops (lift n K') (sS S c) (opsOf ops is) a w->qK P .any ops (lift n K) S zs (is.length+m) listed a w
 |[],al,listed,a,w,hc,_,hS,h=>by
  rw[List.length_nil,wS]
  exact hk al listed a w hc hS h
 |(i,true)::is,al,listed,a,w,hc,hi,hS,h=>by
  simp only[Oz,pM]at hc
  obtain⟨⟨⟨c1,c2⟩,c3⟩,c4⟩:=hc
  obtain⟨v,h1,h2⟩:=h
  have hlt:i<ops.size:=hi (i,true) (by simp)
  have hd:ops.getD i default=ops[i]:=by simp[Array.getD,hlt]
  have ho:ops[i]?=some (ops.getD i default):=by rw[hd];simp[hlt]
  have hn:=Y7 hs hk is al (listed.setIfInBounds i true) _ w c4 (λp hp=>hi p (by simp[hp])) hS h2
  rw[Hd,Nat.add_right_comm]
  cases c with
  |false=>exact Va ho (Region.noSelect_spec hs) (λc a w hq=>absurd hq (λh=>h)) _ _ _ _ (Region.free_spec ho c2) (by simpa using c3) h1 hn
  |true=>
   simp only[tV,pM]at c1
   have hH:MA ops i (ups ops i) listed:=⟨by simpa using c1.1.2,λk hk=>by
    have:=List.all_eq_true.1 c1.2 k (by simpa using hk)
    simp only[pM]at this
    simpa using this.2,λk hk=>by
    have:=List.all_eq_true.1 c1.2 k (by simpa using hk)
    simp only[pM]at this
    exact this.1⟩
   exact AD ho (λz hz=>List.all_eq_true.1 c1.1.1.2 z (by simpa using hz)) (Region.noSelect_spec hs) (λc a w hq=>absurd hq (λh=>h)) _ _ _ _ hH (Region.free_spec ho c2) (by simpa using c3) h1 (hS c1.1.1.1) hn
 |(i,false)::is,al,listed,a,w,hc,hi,hS,h=>by
  simp only[Oz,pM,Ae]at hc
  obtain⟨⟨c1,c2⟩,c3⟩:=hc
  have hlt:i<ops.size:=hi (i,false) (by simp)
  have hd:ops.getD i default=ops[i]:=by simp[Array.getD,hlt]
  have ho:ops[i]?=some (ops.getD i default):=by rw[hd];simp[hlt]
  have hi':∀p∈is,p.1<ops.size:=λp hp=>hi p (by simp[hp])
  rw[Hd,Nat.add_right_comm]
  refine⟨λh0=>(by rw[c2]at h0;cases h0),λj hj=>?_⟩
  rw[c2]at hj
  have hj:j=i:=by simpa using hj
  rw[hj]
  clear hj
  unfold wpOp
  rw[ho]
  dsimp only
  unfold opsOf at h
  rw[KP]at h
  unfold wpS at h
  dsimp only at h
  have key:∀a' w',sS S c w'/\wpS P ops (lift n K') (sS S c) (opsOf ops is) a' w'->(zs.contains i=false->S w->S w')/\qK P .any ops (lift n K) S zs (is.length+m) (listed.setIfInBounds i true) a' w':=λa' w' hh=>by
   refine⟨λhz _=>?_,Y7 hs hk is _ _ _ _ c3 hi' (λhal=>?_) hh.2⟩
   ·cases c with
    |false=>simp only[fN]at c1;rw[c1]at hz;cases hz
    |true=>exact hh.1
   ·cases c with
    |false=>rw[Bool.and_false]at hal;cases hal
    |true=>exact hh.1
  have hw0:sS S c w:=by
   cases c with
   |false=>trivial
   |true=>exact hS (by simpa using c1)
  by_cases hw:Region.wanted (ops.getD i default) (yielded ops a.tmps)=true
  ·rw[if_pos hw]at h ⊢
   exact .inl (wpQ (Q':=lift n K') (λ_ _ _ h=>h) (λh=>h) (Oper.wp_mono (λa w hh=>key a w hh) h))
  ·rw[if_neg hw]at h ⊢
   exact key _ _ ⟨hw0,h⟩
theorem Z7(hs:Region.noSelect ops=true):∀(r:List (Bool×List (Nat×Bool))) (al:Bool) (listed:Array Bool) (a:Act) (w:World),Yu ops zs r al listed=true->(∀s∈r,∀p∈s.2,p.1<ops.size)->(al=true->S w)->
  lift n (sK P n ops S r K) .normal a w->qK P .any ops (lift n K) S zs (tot r) listed a w
 |[],al,listed,a,w,hc,_,_,h=>⟨by simpa[Yu]using hc,h⟩
 |(c,is)::r,al,listed,a,w,hc,hi,hS,h=>by
  obtain⟨e,h1,h2⟩:=h
  exact Y7 hs (λal listed a w hk hS h=>Z7 hs r al listed a w hk (λs hs=>hi s (by simp[hs])) hS h) is al listed a w hc (hi (c,is) (by simp)) hS (h2 a h1)
def Br(l:List (Bool×List Nat)):List (Bool×List (Nat×Bool)):=l.map λp=>(p.1,dec p.2)
def Un:List (Bool×List (Nat×Bool))->List Nat
 |[]=>[]
 |(c,is)::r=>(bif c then[]else(is.filter λp=>!p.2).map Prod.fst)++Un r
def QP(P:Program)(ops:Array Oper)(r:List (Bool×List (Nat×Bool))):Bool:=
 P.follows .mixedOrders&&Region.noSelect ops&&(r.all λs=>s.2.all λp=>Nat.blt p.1 ops.size)&&tot r==ops.size&&Yu ops (Un r) r true (Array.replicate ops.size false)
theorem DD{id:Nat}{F:List As}(r:List (Bool×List Nat))(hc:QP P ops (Br r)=true)(h:SH B w L)(p:∀w,SH B w L->Hs F w)(k:∀w,SH B w L->sK P n ops (Hs F) (Br r) K .normal e w):C P n (.region id ops true) K e w:=λa ha=>by
 simp only[QP,pM,Ae,MY]at hc
 obtain⟨⟨⟨⟨h1,h2⟩,h3⟩,h4⟩,h5⟩:=hc
 refine wp_region_any h1 ?_
 have hd:=h.drew
 have:=Z7 (P:=P) (K:=K) (S:=Hs F) (n:=n) h2 (Br r) true _ a w.drew h5 (λs hs p hp=>kY.1 (h3 s hs p hp)) (λ_=>p _ hd) ⟨e,ha,k _ hd⟩
 rw[h4]at this
 exact Dy _ _ _ _ this
variable{is:List (Nat×Bool)}{r:List (Bool×List (Nat×Bool))}{S':World->Prop}
theorem sgT(h:XS P n ops S (opsOf ops is) (sK P n ops S r K) e w):sK P n ops S ((true,is)::r) K .normal e w:=h
theorem sgF(h:XS P n ops (λ_=>True) (opsOf ops is) (sK P n ops S r K) e w):sK P n ops S ((false,is)::r) K .normal e w:=h
theorem xgT(h:XS P n ops S (opsOf ops is) (sK P n ops S r K) e w):XS P n ops S' [] (sK P n ops S ((true,is)::r) K) e w:=xz h
theorem KR(h:XS P n ops (λ_=>True) (opsOf ops is) (sK P n ops S r K) e w):XS P n ops S' [] (sK P n ops S ((false,is)::r) K) e w:=xz h
end Go.E
end
section
namespace Go.E
open Go.RowKit
variable{P:Program}{n:Nat}{K:kG}{e:Tm}{w:World}{ops:Array Oper}{l:List Oper}{S:World->Prop}{ls:List (Oper×Bool)}{B:World}{L L':List As}
variable{d:Option Tmp}{ty:TypeId}{ps:String}{af:Array Edge}{g:Option (Nat×Bool)}
def tl(p:Option Addr)(c k sz:Nat):Option Addr:=if c=k then p else p.map (·.add (k*sz))
theorem sll{t el:TypeId}{x i:Operand}{p:Option Addr}{m c k sz:Nat}{q:IntKind}(ht:P.underlying t=some (.slice el))(hs:(P.info? el).map (·.size)=some sz)(hx:ev n e x=some (.slice p m c))(hi:ev n e i=some (.int q (k:Nat)))(hk:k<=m)(hm:m<=c):
  Y P n e ⟨d,.slice t x (some i) none none,ty,ps,af,g⟩ w (.slice (tl p c k sz) (m-k) (c-k)) w:=λa ha=>by
 have h1:=run_sliceBound (P:=P) w q (k:Int) m .sliceB (by omega) (by omega)
 cases hq:P.info? el with
 |none=>rw[hq]at hs;cases hs
 |some inf=>
  rw[hq]at hs
  have hz:inf.size=sz:=by simpa using hs
  simp[execOp,ha.eval hx,ha.eval hi,Instr.sliceAt,run_underlying ht,Instr.slice,Instr.sliceBounds,h1,sizeOf,typeInfo,hq,tl,hz]
theorem SH.tl{sz m c k:Nat}{p:Option Addr}{xs:List Value}(h:SH B w L)(m':At L (bS sz (.slice p m c) m xs))(hk:k<=m):SH B w (bS sz (.slice (Go.E.tl p c k sz) (m-k) (c-k)) (m-k) (xs.drop (k*sz))::L):=h.dup m' λO R hA=>by
 refine⟨λj=>Value.ownBlock (.slice (Go.E.tl p c k sz) (m-k) (c-k))=some j,⟨⟨?_,?_⟩,λ_ h=>h,λ_=>Iff.rfl⟩,λj hj=>(hA.2.2 j).2 ?_⟩
 ·rw[Bp,hA.1.1,Nat.sub_mul]
 ·rcases hA.1.2 with⟨h1,h2⟩|⟨b,o,cap,h1,hb,h2,h3,h4⟩
  ·injection h1 with h1 h5 h6;subst h1 h6
   obtain rfl:k=0:=by omega
   exact .inl ⟨by subst h2;rfl,by omega⟩
  ·injection h1 with h1 h5 h6;subst h1 h6
   by_cases hc:c=k
   ·refine .inr ⟨b,o,c-k,by unfold Go.E.tl;rw[if_pos hc],hb,by omega,by omega,λj u hu=>?_⟩
    rw[WA]at hu
    have:=(List.getElem?_eq_some_iff.1 hu).1
    rw[hA.1.1]at this
    have h7:m*sz<=k*sz:=NI _ (by omega)
    omega
   ·refine .inr ⟨b,o+k*sz,c-k,by unfold Go.E.tl;rw[if_neg hc,Ze,pI],hb,by omega,by omega,λj u hu=>?_⟩
    rw[WA]at hu
    rw[Nat.add_assoc];exact h4 _ _ hu
 ·unfold Go.E.tl at hj
  split at hj
  ·cases p with
   |none=>cases hj
   |some a=>exact hj
  ·cases p with
   |none=>cases hj
   |some a=>
    rw[Ze]at hj
    unfold Addr.add at hj
    split at hj<;>exact hj
theorem Bu{α:Type}[BEq α][LawfulBEq α](a:α):(a != a)=false:=by simp
theorem Bw{α:Type}[BEq α][LawfulBEq α](a:α):(a==a)=true:=by simp
theorem aBa(k:ByteArray)(v:Int)(q:IntKind):Ub [.string k,.int q v] [.string k,.int q v]=true:=by simp[Ub,veq]
theorem aBn{xs:List Value}(h:Ub xs xs=true):(!Ub xs xs)=false:=by rw[h];rfl
theorem JG(w:World)(dT sT ty elem:TypeId)(i:TypeInfo)(size:Nat)(g n:Nat)(a:Addr)(sCap dCap:Nat)(cur:Array Value)(t:TypeId)(cs:List Value)
  (hu:P.underlying dT=some (.slice elem)) (hi:P.info? elem=some i) (hs:i.size=size)
  (hg:w.heap[g]?=some (.cells cur t (0,0))) (hn:cs.length=n*size) (hc:cur.size=cs.length)
  (aGn:∀j v,cs[j]?=some v->w.cell? (a.add j)=some v) (h1:∀v∈cs,v.oneCell'=true):
  (Builtin.copy_ #[dT,sT] ty #[.slice (some ⟨g,0,none⟩) n dCap,.slice (some a) n sCap]).run P w=.ok (goInt n) (w.setRow g cs.toArray):=by
 have hl:=run_firstCells_some (P:=P) w size n a n sCap cs hn aGn
 have oP:=run_storeCells_at P g 0 t cs 0 cur w hg (by omega) h1
 have e:(cur.toList.take (0+0)++cs++cur.toList.drop (0+0+cs.length))=cs:=by
  have:cur.toList.drop (0+0+cs.length)=[]:=List.drop_eq_nil_of_le (by simp;omega)
  rw[this];simp
 rw[e]at oP
 simp[Builtin.copy_,run_underlying hu,Builtin.lenOf,sizeOf,typeInfo,hi,hs,hl,oP]
theorem cpy{dT sT el:TypeId}{x y:Operand}{sz m b c b2 o c2:Nat}{xs ys:List Value}{L':List As}(h:SH B w L)(mr:At L (bS sz (.slice (some ⟨b2,o,none⟩) m c2) m ys))(ht:P.underlying dT=some (.slice el))(hs:(P.info? el).map (·.size)=some sz)
  (hx:ev n e x=some (.slice (some ⟨b,0,none⟩) m c)) (hy:ev n e y=some (.slice (some ⟨b2,o,none⟩) m c2)) (up:xO L L' (aV el sz (.slice (some ⟨b,0,none⟩) m c) m xs) (aV el sz (.slice (some ⟨b,0,none⟩) m c) m ys)) (h1:∀u∈ys,Value.oneCell' u=true) (hmc:m=c):
  F P n e ⟨d,.call ⟨.builtin .copy,#[x,y],#[dT,sT]⟩,ty,ps,af,g⟩ w λv w'=>v=.int .i64 m/\SH B w' L':=by
 cases hq:P.info? el with
 |none=>rw[hq]at hs;cases hs
 |some inf=>
  rw[hq]at hs
  have hz:inf.size=sz:=by simpa using hs
  obtain⟨_,_,hA⟩:=h.at_ mr
  rcases hA.1.2 with⟨h2,_⟩|⟨b3,o3,cap,h2,hb,h3,h4,h5⟩
  ·cases h2
  ·injection h2 with h2 h6 h7
   injection h2 with h2
   injection h2 with h2 h8
   subst h2 h8 h7
   obtain⟨m0,m1,m2,_⟩:=up.ix
   have hm:At L (aV el sz (.slice (some ⟨b,0,none⟩) m c) m xs):=by
    have:∀{L L':List As} {A A':As},xO L L' A A'->At L A:=λu=>by
     induction u with
     |z=>exact .z
     |s _ ih=>exact .s ih
    exact this up
   obtain⟨_,_,hO⟩:=h.at_ hm
   rcases hO.1.2 with⟨h2,_⟩|⟨g',cap,cur,h2,hgb,hg,hc,hml,KX,htk⟩
   ·cases h2
   ·injection h2 with h2 h6 h7
    injection h2 with h2
    injection h2 with h2 h8
    subst h2 h7
    have hxl:=hO.1.1
    have Hw:=JG (P:=P) w dT sT ty el inf sz b m ⟨b2,o,none⟩ c2 c cur el ys ht hq hz hg hA.1.1 (by rw[KX,hA.1.1,hmc]) (λj v hj=>by rw[pI];exact h5 j v hj) h1
    refine⟨.int .i64 m,w.setRow b ys.toArray,.inl λa ha=>?_,rfl,?_⟩
    ·have e1:=ha.eval hx
     have e2:=ha.eval hy
     simp only[execOp,resolve,invoke,builtin,List.map_toArray,KP,List.map_nil,e1,e2,Sem.run_bind,Sem.run_pure,Result.andThen_ok,Hw]
     rfl
    ·refine h.step up λO R hA'=>⟨O,R,⟨⟨hA.1.1,.inr ⟨b,c,ys.toArray,rfl,hgb,setRow_heap w b cur _ el _ hg,hc,hml,by simp[hA.1.1,hmc],?_⟩⟩,hA'.2⟩,⟨⟨rfl,rfl,rfl⟩,by simp[World.setRow],λk hk xL=>setRow_other w b k _ (λe=>xL ((hA'.2.1 k).2 (by rw[e];rfl)))⟩,λk hk=>.inl hk,λk hk=>.inr (.inl hk)⟩
     simp only[List.toList_toArray];exact xW (by rw[hA.1.1];omega)
end Go.E
namespace Go.E
theorem tR{α:Type}{enc:α->List Value}{sz:Nat}(he:∀x,(enc x).length=sz):∀(xs:List α) (k:Nat),(xs.flatMap enc).drop (k*sz)=(xs.drop k).flatMap enc
 |[],k=>by simp
 |x::xs,0=>by simp
 |x::xs,k+1=>by
  rw[HY,Nat.succ_mul,Nat.add_comm,<- List.drop_drop,<- he x,List.drop_left,he x,List.drop_succ_cons];exact tR he xs k
theorem FB{α:Type}{f:α->Value}(xs:List α)(k:Nat):(xs.map f).drop (k*1)=(xs.drop k).map f:=by rw[Nat.mul_one,List.map_drop]
end Go.E
end
section
namespace Go.E
variable{P:Program}{n:Nat}{K:kG}{e:Tm}{w:World}{ops:Array Oper}{l:List Oper}{S:World->Prop}{ls:List (Oper×Bool)}{B:World}{L L':List As}
abbrev aA3:=List (Bool×List (Nat×Bool))
def gK(P:Program)(n:Nat)(ops:Array Oper)(S:World->Prop)(i j:Nat)(r1 r2:aA3)(K:kG):kG:=λx e w=>match x with
 |.normal=>XS P n ops S (opsOf ops [(i,false)]) (sK P n ops S r1 K) e w/\XS P n ops S (opsOf ops [(j,false)]) (sK P n ops S r2 K) e w
 |x=>K x e w
theorem aBu{zs:List Nat}{i m:Nat}{r:aA3}{listed:Array Bool}{a:Act}{w:World}(hi:i<ops.size)(hk:∀a w,S w->lift n (sK P n ops S r K) .normal a w->qK P .any ops (lift n K) S zs m (listed.setIfInBounds i true) a w)
  (hS:S w) (h:wpS P ops (lift n (sK P n ops S r K)) S (opsOf ops [(i,false)]) a w):wpOp P ops (lift n K) i (λa' w'=>(zs.contains i=false->S w->S w')/\qK P .any ops (lift n K) S zs m (listed.setIfInBounds i true) a' w') a w:=by
 have hd:ops.getD i default=ops[i]:=by simp[Array.getD,hi]
 have ho:ops[i]?=some (ops.getD i default):=by rw[hd];simp[hi]
 unfold wpOp
 rw[ho]
 dsimp only
 unfold opsOf at h
 rw[KP]at h
 unfold wpS at h
 dsimp only at h
 have key:∀a' w',S w'/\wpS P ops (lift n (sK P n ops S r K)) S [] a' w'->(zs.contains i=false->S w->S w')/\qK P .any ops (lift n K) S zs m (listed.setIfInBounds i true) a' w':=λa' w' hh=>⟨λ_ _=>hh.1,hk _ _ hh.1 hh.2⟩
 by_cases hw:Region.wanted (ops.getD i default) (yielded ops a.tmps)=true
 ·rw[if_pos hw]at h ⊢
  exact .inl (wpQ (Q':=lift n (sK P n ops S r K)) (λ_ _ _ h=>h) (λh=>h) (Oper.wp_mono (λa w hh=>key a w hh) h))
 ·rw[if_neg hw]at h ⊢
  exact key _ _ ⟨hS,h⟩
def JC(P:Program)(ops:Array Oper)(is:List (Nat×Bool))(i j:Nat)(r1 r2:aA3):Bool:=
 P.follows .mixedOrders&&Region.noSelect ops&&(is.all λp=>Nat.blt p.1 ops.size)&&Nat.blt i ops.size&&Nat.blt j ops.size&&(r1.all λs=>s.2.all λp=>Nat.blt p.1 ops.size)&&(r2.all λs=>s.2.all λp=>Nat.blt p.1 ops.size)&&
 is.length+(tot r1+1)==ops.size&&tot r2==tot r1&&
 Oz ops (Un r1++Un r2) (λal listed=>al&&Region.ready .any ops listed==[i,j]&&Yu ops (Un r1++Un r2) r1 true (listed.setIfInBounds i true)&&Yu ops (Un r1++Un r2) r2 true (listed.setIfInBounds j true)) true is true (Array.replicate ops.size false)
theorem aJe{id:Nat}{F:List As}(is:List Nat)(i j:Nat)(r1 r2:List (Bool×List Nat))(hc:JC P ops (dec is) i j (Br r1) (Br r2)=true)(h:SH B w L)(p:∀w,SH B w L->Hs F w)
  (k:∀w,SH B w L->XS P n ops (Hs F) (opsOf ops (dec is)) (gK P n ops (Hs F) i j (Br r1) (Br r2) K) e w):C P n (.region id ops true) K e w:=λa ha=>by
 simp only[JC,pM,Ae,MY]at hc
 obtain⟨⟨⟨⟨⟨⟨⟨⟨⟨h1,h2⟩,h3⟩,hi⟩,hj⟩,h4⟩,h5⟩,h6⟩,h7⟩,h8⟩:=hc
 have hi:=kY.1 hi
 have hj:=kY.1 hj
 refine wp_region_any h1 ?_
 have hd:=h.drew
 have:=Y7 (P:=P) (K:=K) (S:=Hs F) (n:=n) (zs:=Un (Br r1)++Un (Br r2)) (c:=true) (m:=tot (Br r1)+1) (K':=gK P n ops (Hs F) i j (Br r1) (Br r2) K) h2 ?_ (dec is) true _ a w.drew h8 (λp hp=>kY.1 (h3 p hp)) (λ_=>p _ hd) (k _ hd a ha)
 ·rw[h6]at this
  exact Dy _ _ _ _ this
 ·intro al listed a w hk hS hq
  simp only[pM,Ae]at hk
  obtain⟨⟨⟨k1,k2⟩,k3⟩,k4⟩:=hk
  obtain⟨e,he,g1,g2⟩:=hq
  refine⟨λh0=>(by rw[k2]at h0;cases h0),λq hq=>?_⟩
  rw[k2]at hq
  rcases List.mem_cons.1 hq with rfl|hq
  ·exact aBu (r:=Br r1) hi (λa w hS hl=>Z7 h2 (Br r1) true _ a w k3 (λs hs p hp=>kY.1 (h4 s hs p hp)) (λ_=>hS) hl) (hS k1) (g1 a he)
  ·have hq:q=j:=by simpa using hq
   subst hq
   refine aBu (r:=Br r2) hj (λa w hS hl=>?_) (hS k1) (g2 a he)
   rw[<- h7]
   exact Z7 h2 (Br r2) true _ a w k4 (λs hs p hp=>kY.1 (h5 s hs p hp)) (λ_=>hS) hl
theorem aJv{i j:Nat}{r1 r2:aA3}{S':World->Prop}(h1:XS P n ops S (opsOf ops [(i,false)]) (sK P n ops S r1 K) e w)(h2:XS P n ops S (opsOf ops [(j,false)]) (sK P n ops S r2 K) e w):XS P n ops S' [] (gK P n ops S i j r1 r2 K) e w:=xz ⟨h1,h2⟩
end Go.E
namespace Go.E
theorem tW{b:Bool}(h:b=true):(!b)=false:=by rw[h];rfl
theorem wY{b:Bool}(h:b=false):(!b)=true:=by rw[h];rfl
end Go.E
end
section
namespace Go.E
variable{P:Program}{n:Nat}{K:kG}{e:Tm}{w:World}{ops:Array Oper}{S:World->Prop}{B:World}{L:List As}
inductive Ot where
 |stop
 |op (k:Nat) (f:Bool) (t:Ot)
 |fork (i j:Nat) (t u:Ot)
def Ot.is:Ot->List (Nat×Bool)
 |.stop=>[]
 |.op k f t=>(k,f)::t.is
 |.fork _ _ _ _=>[]
def Ot.ok(ops:Array Oper):Ot->Array Bool->Bool
 |.stop,listed=>Region.ready .any ops listed==[]
 |.op k true t,listed=>Region.free .any ops listed k&&(Region.ready .any ops listed).contains k&&t.ok ops (listed.setIfInBounds k true)
 |.op k false t,listed=>(Region.ready .any ops listed==[k])&&t.ok ops (listed.setIfInBounds k true)
 |.fork i j t u,listed=>(Region.ready .any ops listed==[i,j])&&t.ok ops (listed.setIfInBounds i true)&&u.ok ops (listed.setIfInBounds j true)
def Ot.len:Ot->Nat
 |.stop=>0
 |.op _ _ t=>t.len+1
 |.fork _ _ t _=>t.len+1
def Ot.bd(m:Nat):Ot->Bool
 |.stop=>true
 |.op k _ t=>Nat.blt k m&&t.bd m
 |.fork i j t u=>Nat.blt i m&&Nat.blt j m&&t.bd m&&u.bd m&&t.len==u.len
def Ot.kp(P:Program)(n:Nat)(ops:Array Oper)(S:World->Prop)(K:kG):Ot->kG
 |.stop=>K
 |.op _ _ t=>t.kp P n ops S K
 |.fork i j t u=>λx e w=>match x with
  |.normal=>XS P n ops S (opsOf ops ((i,false)::t.is)) (t.kp P n ops S K) e w/\XS P n ops S (opsOf ops ((j,false)::u.is)) (u.kp P n ops S K) e w
  |x=>K x e w
theorem aD6:∀(t:Ot) (c:List PanicEntry) (a:Act) (w:World),¬lift n (t.kp P n ops S K) (.panic c) a w:=λt c a w h=>h
theorem aF0:∀(t:Ot),LetsOut (lift n (t.kp P n ops S K))->LetsOut (lift n K):=λt h=>h
theorem OA{t:Ot}{k:Nat}{listed:Array Bool}{a:Act}{w:World}(hlt:k<ops.size)(ih:∀a w,S w->wpS P ops (lift n (t.kp P n ops S K)) S (opsOf ops t.is) a w->wpAnyH P .any ops (lift n K) S t.len (listed.setIfInBounds k true) a w)(hS:S w)
  (h:wpS P ops (lift n (t.kp P n ops S K)) S (opsOf ops ((k,false)::t.is)) a w):wpOp P ops (lift n K) k (λa' w'=>S w'/\wpAnyH P .any ops (lift n K) S t.len (listed.setIfInBounds k true) a' w') a w:=by
 have hd:ops.getD k default=ops[k]:=by simp[Array.getD,hlt]
 have ho:ops[k]?=some (ops.getD k default):=by rw[hd];simp[hlt]
 unfold wpOp
 rw[ho]
 dsimp only
 unfold opsOf at h
 rw[KP]at h
 unfold wpS at h
 dsimp only at h
 by_cases hw:Region.wanted (ops.getD k default) (yielded ops a.tmps)=true
 ·rw[if_pos hw]at h ⊢
  exact .inl (wpQ (Q':=lift n (t.kp P n ops S K)) (λ_ _ _ h=>(aD6 t _ _ _ h).elim) (aF0 t) (Oper.wp_mono (λa w hh=>⟨hh.1,ih a w hh.1 hh.2⟩) h))
 ·rw[if_neg hw]at h ⊢
  exact⟨hS,ih _ _ hS h⟩
theorem wpT(hs:Region.noSelect ops=true):∀(t:Ot) (listed:Array Bool) (a:Act) (w:World),t.ok ops listed=true->t.bd ops.size=true->S w->wpS P ops (lift n (t.kp P n ops S K)) S (opsOf ops t.is) a w->wpAnyH P .any ops (lift n K) S t.len listed a w
 |.stop,listed,a,w,hc,_,_,h=>wpAnyH_done (by simpa[Ot.ok]using hc) h 0
 |.op k true t,listed,a,w,hc,hb,hS,h=>by
  simp only[Ot.ok,pM]at hc
  simp only[Ot.bd,pM]at hb
  obtain⟨v,g1,g2⟩:=h
  have hlt:k<ops.size:=kY.1 hb.1
  have hd:ops.getD k default=ops[k]:=by simp[Array.getD,hlt]
  have ho:ops[k]?=some (ops.getD k default):=by rw[hd];simp[hlt]
  exact wpAnyH_take ho hs hc.1.1 hc.1.2 (λc a w hq=>hq.elim) g1 hS (wpT hs t _ _ _ hc.2 hb.2 hS g2)
 |.op k false t,listed,a,w,hc,hb,hS,h=>by
  simp only[Ot.ok,pM,Ae]at hc
  simp only[Ot.bd,pM]at hb
  refine wpAnyH_all hc.1 (by simp) ?_
  intro j' oU
  have oU:j'=k:=by simpa using oU
  rw[oU]
  exact OA (kY.1 hb.1) (λa w hS h=>wpT hs t _ a w hc.2 hb.2 hS h) hS h
 |.fork i j t u,listed,a,w,hc,hb,hS,h=>by
  simp only[Ot.ok,pM,Ae]at hc
  simp only[Ot.bd,pM,Ae]at hb
  obtain⟨e,g1,g2,g3⟩:=h
  refine wpAnyH_all hc.1.1 (by simp) ?_
  intro k hk
  rcases List.mem_cons.1 hk with hk|hk
  ·subst hk
   exact OA (kY.1 hb.1.1.1.1) (λa w hS h=>wpT hs t _ a w hc.1.2 hb.1.1.2 hS h) hS (g2 a g1)
  ·have hk:k=j:=by simpa using hk
   subst hk
   have:=OA (t:=u) (kY.1 hb.1.1.1.2) (λa w hS h=>wpT hs u (listed.setIfInBounds k true) a w hc.2 hb.1.2 hS h) hS (g3 a g1)
   rw[<- hb.2]at this
   exact this
def SY(P:Program)(ops:Array Oper)(t:Ot):Bool:=P.follows .mixedOrders&&Region.noSelect ops&&t.bd ops.size&&t.len==ops.size&&t.ok ops (Array.replicate ops.size false)
theorem drT{id:Nat}{F:List As}(t:Ot)(hc:SY P ops t=true)(h:SH B w L)(p:∀w,SH B w L->Hs F w)(k:∀w,SH B w L->XS P n ops (Hs F) (opsOf ops t.is) (t.kp P n ops (Hs F) K) e w):C P n (.region id ops true) K e w:=λa ha=>by
 simp only[SY,pM,Ae]at hc
 obtain⟨⟨⟨⟨h1,h2⟩,h3⟩,h4⟩,h5⟩:=hc
 refine wp_region_held (S:=Hs F) h1 ?_
 have hd:=h.drew
 have:=wpT (P:=P) (K:=K) (S:=Hs F) (n:=n) h2 t _ a w.drew h5 h3 (p _ hd) (k _ hd a ha)
 rw[h4]at this
 exact this
theorem Zb{i j:Nat}{t u:Ot}(h1:XS P n ops S (opsOf ops ((i,false)::t.is)) (t.kp P n ops S K) e w)(h2:XS P n ops S (opsOf ops ((j,false)::u.is)) (u.kp P n ops S K) e w):XS P n ops S [] (Ot.kp P n ops S K (.fork i j t u)) e w:=xz ⟨h1,h2⟩
def Ot.Re:Ot->Bool
 |.stop=>true
 |.op _ _ t=>t.Re
 |.fork _ _ _ _=>false
theorem kps:∀(t:Ot),t.Re=true->t.kp P n ops S K=K
 |.stop,_=>rfl
 |.op _ _ t,h=>kps t h
 |.fork _ _ _ _,h=>by cases h
theorem xzS{t:Ot}(hs:t.Re=true)(h:K .normal e w):XS P n ops S [] (t.kp P n ops S K) e w:=by rw[kps t hs];exact xz h
end Go.E
end
