/- Parts of a proof: Wl, Wm, Po, Aye, Pr, Ayf. -/
import Derived.Test.YtmliojdkmfhmmaaGreatW25
import Derived.Test.YtmliojdkmfhmmaaGreatW13
import Derived.Test.YtmliojdkmfhmmaaGreatW14
import Derived.Test.YtmliojdkmfhmmaaGreatW16
import Derived.Test.YtmliojdkmfhmmaaGreatW12
import Derived.Test.YtmliojdkmfhmmaaGreatW21
import Derived.Test.YtmliojdkmfhmmaaGreatW09
import Derived.Test.YtmliojdkmfhmmaaGreatW03
set_option linter.unusedVariables false
set_option linter.unusedSimpArgs false
set_option maxRecDepth 100000
set_option maxHeartbeats 4000000
section
namespace Go.Ct
variable {g : Ga}
structure Lone (g : Ga) (S0 i : Nat) (x : X) : Prop where
 ex : ∃ g' u u',Ge g g'∧GW g'∧Typ g' x.s∧AllFit x.s∧Er g' x.e u u'
 got : x.e.got.length≤i
 size : x.s.size≤S0+x.wt
 wt : x.wt≤199 * i+120
theorem Lone.mono {S0 i j : Nat} {x : X} (h : Lone g S0 i x) (hj : i≤j) : Lone g S0 j x :=⟨h.ex,Nat.le_trans h.got hj,h.size,by have:=h.wt; omega⟩
theorem Lone.call {S0 i : Nat} {x : X} (h : Lone g S0 i x) : x.e.call.mask<18446744073709551616∧x.e.call.key.size≤9223372036854775807∧7≤x.e.call.kind∧x.e.call.kind≤12:=by
 obtain ⟨g',u,u',_,_,_,_,hE⟩:=h.ex
 exact ⟨hE.mask,hE.key,hE.ok.lo,hE.ok.hi⟩
theorem Lone.start {c : Call} {s : St} (hw : GW g) (ht : Typ g s) (hf : AllFit s) (hc : CallOk g c) (hm : c.mask<18446744073709551616) (hk : c.key.size≤9223372036854775807) (hok : Ok 50 (stepX (callI c FU) 0 ⟨{ call:=c },s⟩)) :
  Lone g s.size 0 (stepX (callI c FU) 0 ⟨{ call:=c },s⟩):=by
 obtain ⟨g',u,u',_,h2,h3,h4,h5,h6,h7,h8,h9,_⟩:=Er.start hw ht hf hc hm hk hok
 have hb:=stepX_bal (callI c FU) 0 ⟨{ call:=c },s⟩
 have e1 : (X.mk { call:=c } s).wt=0:=rfl
 have e2 : (X.mk { call:=c } s).s.size=s.size:=rfl
 exact ⟨⟨g',u,u',h2,h3,h4,h5,h6⟩,by rw [h7]; exact Nat.le_refl _,by omega,by omega⟩
theorem Lone.ready {S0 i : Nat} {x : X} (h : Lone g S0 i x) (hs : S0+199 * i+120≤room) : Ok 60 (repeatX 1 x)∧(repeatX 1 x).left<FU:=by
 obtain ⟨g',u,u',_,hw,ht,hf,hE⟩:=h.ex
 have h1:=h.size
 have h2:=h.wt
 exact hE.ready (s:=x.s) ht hf (by omega)
theorem Lone.step {S0 i : Nat} {x : X} (h : Lone g S0 i x) (hd : x.e.done=false) (hi : i<most) (hok : Ok 50 (stepX (callI x.e.call FU) 1 x)) : Lone g S0 (i+1) (stepX (callI x.e.call FU) 1 x):=by
 obtain ⟨g',u,u',k,hw,ht,hf,hE⟩:=h.ex
 obtain ⟨g2,v,v',_,k2,h2,h3,h4,h5,h6,h7,h8⟩:=hE.step (s:=x.s) hw ht hf hd (Nat.lt_of_le_of_lt h.got hi) hok
 have hb:=stepX_bal (callI x.e.call FU) 1 x
 have hz:=h.size
 have hg:=h.got
 exact ⟨⟨g2,v,v',k.trans k2,h2,h3,h4,h5⟩,by rw [show (stepX (callI x.e.call FU) 1 x).e.got.length=x.e.got.length+1 from h6]; omega,by omega,Nat.le_trans h8 (by omega)⟩
def keepZ' (zs : List (Nat × Ex)) (b : Nat) (e : Ex) : List (Nat × Ex):=if e.done=true then zs else zs ++ [(b,e)]
def keepT' (ts : List Trie) (e : Ex) : List Trie:=if e.done=true∧0<e.result.trie.root∧ts.length<5 then ts ++ [e.result.trie] else ts
structure Wld (k : Nat) (g : Ga) (s : St) (ts : List Trie) (zs : List (Nat × Ex)) : Prop where
 gw : GW g
 typ : Typ g s
 fit : AllFit s
 tries : ∀ t ∈ ts,Tk g t
 first : (ts.getD 0 {}).readOnly=false
 some : 0<ts.length
 five : ts.length≤5
 ex : ∀ z ∈ zs,z.2.got.length≤1048576+k∧∃ u u',Er g z.2 u u'
 few : zs.length≤k
 size : s.size≤1000000000 * (k+1)
theorem Wld.keep {k n b : Nat} {s : St} {ts : List Trie} {zs : List (Nat × Ex)} {x : X} (h : Wld k g s ts zs) (hx : Lone g s.size n x) (hn : n≤1048576) : ∃ g',Wld (k+1) g' x.s (keepT' ts x.e) (keepZ' zs b x.e):=by
 obtain ⟨g',u,u',hk,hw,ht,hf,hE⟩:=hx.ex
 have hT : ∀ t ∈ ts,Tk g' t:=fun t m=>(h.tries t m).ge hk
 have hZ : ∀ z ∈ zs,z.2.got.length≤1048576+(k+1)∧∃ u u',Er g' z.2 u u':=fun z m=>by
  obtain ⟨h1,v,v',h2⟩:=h.ex z m
  exact ⟨by omega,v,v',h2.ge h.gw hk⟩
 have hs : x.s.size≤1000000000 * (k+1+1):=by have:=hx.size; have:=hx.wt; have:=h.size; omega
 have h5:=h.five
 have h0:=h.some
 refine ⟨g',hw,ht,hf,?_,?_,?_,?_,?_,?_,hs⟩
 ·unfold keepT'
  split
  ·rename_i hc
   intro t m
   rcases List.mem_append.1 m with m | m
   ·exact hT t m
   ·rw [List.mem_singleton.1 m]
    rcases hE.result hc.1 with hr | hr
    ·omega
    ·exact hr
  ·exact hT
 ·unfold keepT'
  split
  ·rw [List.getD_eq_getElem?_getD,List.getElem?_append_left h0,← List.getD_eq_getElem?_getD]; exact h.first
  ·exact h.first
 ·unfold keepT'; split
  ·rw [List.length_append]; omega
  ·exact h0
 ·unfold keepT'
  split
  ·rename_i hc
   rw [List.length_append,List.length_singleton]; omega
  ·exact h5
 ·unfold keepZ'
  split
  ·exact hZ
  ·intro z m
   rcases List.mem_append.1 m with m | m
   ·exact hZ z m
   ·rw [List.mem_singleton.1 m]
    exact ⟨by have:=hx.got; show x.e.got.length≤_; omega,u,u',hE⟩
 ·have:=h.few
  unfold keepZ'; split
  ·omega
  ·rw [List.length_append,List.length_singleton]; omega
theorem Wld.ready {k i : Nat} {s : St} {ts : List Trie} {zs : List (Nat × Ex)} (h : Wld k g s ts zs) (hk : k≤40) {z : Nat × Ex} (hz : z ∈ zs) : Ok 60 (repeatX 1 ⟨z.2,s⟩)∧(repeatX 1 ⟨z.2,s⟩).left<FU∧z.2.call.mask<18446744073709551616∧z.2.call.key.size≤9223372036854775807∧7≤z.2.call.kind∧z.2.call.kind≤12:=by
 obtain ⟨h1,u,u',hE⟩:=h.ex z hz
 have hs:=h.size
 obtain ⟨a,b⟩:=hE.ready h.typ h.fit (by unfold room; omega)
 exact ⟨a,b,hE.mask,hE.key,hE.ok.lo,hE.ok.hi⟩
theorem Wld.step {k i : Nat} {s : St} {ts : List Trie} {zs : List (Nat × Ex)} (h : Wld k g s ts zs) (hk : k≤40) (hi : i<zs.length) (hd : zs[i].2.done=false) (hok : Ok 50 (stepX (callI zs[i].2.call FU) 1 ⟨zs[i].2,s⟩)) :
  ∃ g',Wld (k+1) g' (stepX (callI zs[i].2.call FU) 1 ⟨zs[i].2,s⟩).s ts (zs.set i (zs[i].1,(stepX (callI zs[i].2.call FU) 1 ⟨zs[i].2,s⟩).e)):=by
 obtain ⟨h1,u,u',hE⟩:=h.ex _ (List.getElem_mem hi)
 obtain ⟨g2,v,v',_,k2,h2,h3,h4,h5,h6,h7,h8⟩:=hE.step h.gw h.typ h.fit hd (by unfold most; omega) hok
 have hs:=h.size
 refine ⟨g2,h2,h3,h4,fun t m=>(h.tries t m).ge k2,h.first,h.some,h.five,?_,?_,?_⟩
 ·intro z m
  rcases List.mem_or_eq_of_mem_set m with m | rfl
  ·obtain ⟨a,w,w',b⟩:=h.ex z m
   exact ⟨by omega,w,w',b.ge h.gw k2⟩
  ·exact ⟨by show (stepX (callI zs[i].2.call FU) 1 ⟨zs[i].2,s⟩).e.got.length≤_; omega,v,v',h5⟩
 ·rw [List.length_set]; have:=h.few; omega
 ·omega
theorem Wld.mono {k j : Nat} {s : St} {ts : List Trie} {zs : List (Nat × Ex)} (h : Wld k g s ts zs) (hj : k≤j) : Wld j g s ts zs :=
 ⟨h.gw,h.typ,h.fit,h.tries,h.first,h.some,h.five,fun z m=>⟨by have:=(h.ex z m).1; omega,(h.ex z m).2⟩,by have:=h.few; omega,by have:=h.size; omega⟩
end Go.Ct
end
section
namespace Go.Ct
variable {g : Ga}
def createI : I Result:=.alloc { kind:=3 } 0 copiedI
def createT : I Result:=.alloc { kind:=3 } 0 copiedT
theorem sm_create (hw : GW g) : Sm createT createI g :=
 .alloc (0,0) (ok_empty (by decide) (by decide)) ⟨(fun h=>by cases h),(fun _=>.inl rfl),fun h=>by cases h⟩ fun h3 hw3=>sm_copied hw3 (alloc_isM hw rfl)
def g0 : Ga :=⟨[],[],[],[],0,fun _=>False⟩
theorem gw0 : GW g0 :=⟨(fun n h=>by cases h),(fun n h=>by cases h),(fun n h=>by cases h),(fun n h=>by cases h),(fun n h=>by cases h),.nil,rfl,rfl⟩
theorem typ0 : Typ g0 {} :=⟨rfl,rfl,rfl,(fun c τ h=>by have:=cty_lt h; have e : g0.ty.length=0:=rfl; omega),fun c h=>h.elim⟩
def createS (s : St) : St × Trie :=
 let a:=s.alloc { kind:=3 } 0
 let g:=a.1.newGen
 let m:=g.1.alloc { kind:=2,gen:=g.2 } a.2
 let c:=m.1.newCell m.2
 (c.1,{ root:=c.2 })
theorem allFit0 : AllFit {}:=fun n h=>by cases h
theorem create_fit : AllFit (createS {}).1 :=
 (AllFit.alloc (s:=(({} : St).alloc { kind:=3 } 0).1.newGen.1) (AllFit.alloc (s:={}) allFit0 (fit_empty _) 0) (fit_small _ 2 _ 0 0 0) _ : AllFit _)
theorem wld0 : ∃ g,Wld 0 g (createS {}).1 [(createS {}).2] []:=by
 obtain ⟨g',s',u,u',h1,h2,h3,h4,h5,h6⟩:=(sm_create gw0).head gw0 {} typ0
 have e : createI.head {}=((createS {}).1,.ret { found:=true,trie:=(createS {}).2 }):=rfl
 rw [e] at h2
 obtain ⟨rfl,rfl⟩:=Prod.mk.inj h2
 cases h6 with
 | ret a _ hq =>
  refine ⟨g',h4,h5,create_fit,?_,rfl,Nat.succ_pos 0,by show 1≤5; omega,(fun z m=>by cases m),Nat.le_refl _,by decide⟩
  intro t m
  rw [List.mem_singleton.1 m]
  rcases hq with hq | hq
  ·exact absurd hq (by decide)
  ·exact hq
theorem Wld.callOk {k : Nat} {s : St} {ts : List Trie} {zs : List (Nat × Ex)} {c : Call} (h : Wld k g s ts zs) (h7 : 7≤c.kind) (h12 : c.kind≤12) (hm : c.trie ∈ ts) (hr : c.kind=8∨c.kind=9∨c.kind=12→c.trie.readOnly=false) : CallOk g c :=
 ⟨h7,h12,h.tries _ hm,hr⟩
end Go.Ct
end
section
namespace Go.Ct
variable {g : Ga}
theorem pop_hit (b : Nat) : ∀ n p,p<Bm.pop n b→∃ i,i<n∧b.testBit i=true∧Bm.pop i b=p
 | 0,p,h=>absurd h (by unfold Bm.pop; omega)
 | n+1,p,h=>by
  rw [Bm.pop_testBit] at h
  by_cases h1 : p<Bm.pop n b
  ·obtain ⟨i,a,c⟩:=pop_hit b n p h1; exact ⟨i,Nat.lt_succ_of_lt a,c⟩
  ·cases hb : b.testBit n with
   | false=>rw [hb] at h; simp at h; omega
   | true=>rw [hb] at h; simp at h; exact ⟨n,by omega,hb,by omega⟩
theorem blookup_hit {n : Node} (h : n.isC=true) {r : Int} (hr : r ∈ n.branches) : ∃ k,blookup n k=(r,true):=by
 obtain ⟨j,hj,rfl⟩:=List.getElem_of_mem hr
 obtain ⟨i,h1,h2,h3⟩:=pop_hit n.bitmap 64 j (by rw [← (branches_pos h).2]; exact hj)
 have hh : Bm.has n.bitmap i=true:=by unfold Bm.has; rw [decide_eq_true (show (0 : Int)≤(i : Int) by omega),decide_eq_true (show (i : Int)<64 by omega)]; simpa using h2
 refine ⟨i,?_⟩
 unfold blookup
 rw [if_neg (by rw [h,hh]; simp)]
 have hp : Bm.position n.bitmap i=j:=by
  unfold Bm.position Bm.cut
  by_cases h0 : i=0
  ·subst h0; simpa [Bm.pop] using h3
  ·rw [if_neg (by omega),if_neg (by omega)]; simpa using h3
 rw [hp,List.getD_eq_getElem?_getD,List.getElem?_eq_getElem hj]; rfl
def Node.cellP (n : Node) : Int:=if n.kind=2 then n.main else if n.isMain=true then n.prev else if n.kind=8 then n.status else 0
structure Proper (s : St) : Prop where
 cells : ∀ r ∈ s.cells,0≤r∧r≤((2+s.added.length : Nat) : Int)
 node : ∀ n ∈ s.added,n.valid=true∧n.gen≤((s.gen : Nat) : Int)∧(∀ r ∈ n.branches,0≤r∧r≤((2+s.added.length : Nat) : Int))∧(0≤n.old∧n.old≤((2+s.added.length : Nat) : Int))∧(0≤n.expected∧n.expected≤((2+s.added.length : Nat) : Int))∧0≤n.new∧n.new≤((2+s.added.length : Nat) : Int)
 cell : ∀ n ∈ s.added,n.hasCell=true→1≤n.cellOf∧n.cellOf≤((s.cells.length : Nat) : Int)
 main : ∀ n ∈ s.added,n.kind=2→n.cellOf=n.main
 prev : ∀ n ∈ s.added,n.isMain=true→n.cellOf=n.prev
 status : ∀ n ∈ s.added,n.kind=8→n.cellOf=n.status
 sort : (s.added.filter Node.hasCell).Pairwise fun a b=>a.cellOf<b.cellOf
theorem in_range {r : Int} (h : (g.node r).kind≠0) : 0≤r∧r≤((2+g.nodes.length : Nat) : Int):=by
 have h1:=node_one h
 have h2:=in_of_kind h
 unfold Ga.count at h2; omega
theorem Holds.range {c v : Int} {τ : CellTy} (h : Holds g c v τ) : 0≤v∧v≤((2+g.nodes.length : Nat) : Int):=by
 cases τ with
 | root =>
   rcases h with h | h
   ·exact in_range (by rw [h.1]; decide)
   ·exact in_range (by rw [show (g.node v).kind=8 from h]; decide)
 | fixed=>exact in_range (by rw [h.1]; decide)
 | main b=>exact in_range (by have:=isM.two h; omega)
 | prev b =>
   rcases h with h | h | h
   ·omega
   ·exact in_range (by rw [h.1]; decide)
   ·exact in_range (by have:=isM.two h.2.1; omega)
 | status=>rcases h with h | h | h <;> omega
theorem only_fields {n : Node} (h : n.valid=true) : (n.kind≠2→n.gen=0)∧(n.kind≠3→n.branches=[])∧(n.kind≠7→n.kind≠8→n.old=0)∧(n.kind≠8→n.expected=0∧n.new=0):=by
 have hv:=valid_only h
 have hk:=valid_kind h
 refine ⟨fun k=>?_,fun k=>?_,fun k k'=>?_,fun k=>⟨?_,?_⟩⟩ <;>
  (rw [hv]; unfold Node.only; repeat' split) <;> first | rfl | (exfalso; omega)
theorem proper_of {s : St} (hw : GW g) (ht : Typ g s) : Proper s:=by
 have hn:=ht.nodes
 have hmem : ∀ n ∈ s.added,∃ b,(n,b) ∈ g.zip:=fun n m=>mem_zip hw (by rw [← hn]; exact m)
 refine ⟨?_,?_,?_,?_,?_,?_,by rw [hn]; exact hw.sort⟩
 ·intro r hr
  obtain ⟨j,hj,rfl⟩:=List.getElem_of_mem hr
  have hl:=ht.len
  have hc : g.cty (j+1)=some (g.ty[j]'(by omega)):=by
   unfold Ga.cty
   rw [if_neg (by omega)]
   have : ((j : Int)+1).toNat - 1=j:=by omega
   rw [this,List.getElem?_eq_getElem]
  have:=(ht.holds _ _ hc).range
  have e : ((j : Int)+1).toNat - 1=j:=by omega
  rw [e,List.getD_eq_getElem?_getD,List.getElem?_eq_getElem hj] at this
  rw [hn]; exact this
 ·intro n m
  obtain ⟨b,hz⟩:=hmem n m
  have ho : NodeOk g n b:=hw.node _ hz
  have hf:=only_fields ho.valid
  have z0 : (0 : Int)≤0∧(0 : Int)≤((2+g.nodes.length : Nat) : Int):=by omega
  rw [hn,ht.gen]
  refine ⟨ho.valid,?_,?_,?_,?_,?_⟩
  ·by_cases k : n.kind=2
   ·exact (ho.i k).1
   ·rw [hf.1 k]; omega
  ·intro r hr
   by_cases k : n.kind=3
   ·obtain ⟨i,hi⟩:=blookup_hit (n:=n) (by unfold Node.isC; rw [k,ho.valid]; rfl) hr
    have:=(ho.c k).2.2 i (by rw [hi])
    rw [hi] at this
    rcases this with h | h
    ·exact in_range (by rw [h.1]; decide)
    ·exact in_range (by rw [h.1]; decide)
   ·rw [hf.2.1 k] at hr; cases hr
  ·by_cases k : n.kind=7
   ·exact in_range (by have:=(ho.f k).two; omega)
   ·by_cases k' : n.kind=8
    ·exact in_range (by rw [((ho.d k').1).1]; decide)
    ·rw [hf.2.2.1 k k']; exact z0
  ·by_cases k : n.kind=8
   ·exact in_range (by have:=((ho.d k).2.1).two; omega)
   ·rw [(hf.2.2.2 k).1]; exact z0
  ·by_cases k : n.kind=8
   ·exact in_range (by rw [((ho.d k).2.2).1]; decide)
   ·rw [(hf.2.2.2 k).2]; exact z0
 ·intro n m hc
  obtain ⟨b,hz⟩:=hmem n m
  obtain ⟨τ,hτ⟩:=has_cellTy b hc
  have:=cty_lt (hw.cell _ hz τ hτ)
  have hl:=ht.len
  dsimp only at this; omega
 ·intro n m k; obtain ⟨b,hz⟩:=hmem n m; exact hw.main _ hz k
 ·intro n m k; obtain ⟨b,hz⟩:=hmem n m; exact hw.prev _ hz k
 ·intro n m k; obtain ⟨b,hz⟩:=hmem n m; exact hw.status _ hz k
structure PNode (s : St) (n : Node) : Prop where
 valid : n.valid=true
 gen : n.gen≤((s.gen : Nat) : Int)
 br : ∀ r ∈ n.branches,0≤r∧r≤((2+s.added.length : Nat) : Int)
 old : 0≤n.old∧n.old≤((2+s.added.length : Nat) : Int)
 ex : 0≤n.expected∧n.expected≤((2+s.added.length : Nat) : Int)
 nw : 0≤n.new∧n.new≤((2+s.added.length : Nat) : Int)
 lo : n.hasCell=true→1≤n.cellP∧n.cellP≤((s.cells.length : Nat) : Int)
theorem Proper.cellP {s : St} (h : Proper s) {n : Node} (m : n ∈ s.added) (hc : n.hasCell=true) : n.cellP=n.cellOf:=by
 unfold Node.cellP
 split
 ·rename_i k; exact (h.main n m k).symm
 ·split
  ·rename_i k; exact (h.prev n m k).symm
  ·split
   ·rename_i k; exact (h.status n m k).symm
   ·unfold Node.hasCell at hc; simp_all
theorem mark_no : markNode.hasCell=false:=by decide
theorem Proper.all {s : St} (h : Proper s) : ∀ n ∈ markNode::markNode::s.added,PNode s n:=by
 have hm : PNode s markNode :=⟨by decide +kernel,by show (0 : Int)≤_; omega,(fun r hr=>by cases hr),by show (0 : Int)≤0∧(0 : Int)≤_; omega,by show (0 : Int)≤0∧(0 : Int)≤_; omega,by show (0 : Int)≤0∧(0 : Int)≤_; omega,fun hc=>by rw [mark_no] at hc; cases hc⟩
 intro n m
 rcases List.mem_cons.1 m with rfl | m
 ·exact hm
 ·rcases List.mem_cons.1 m with rfl | m
  ·exact hm
  ·obtain ⟨h1,h2,h3,h4,h5,h6⟩:=h.node n m
   exact ⟨h1,h2,h3,h4,h5,h6,fun hc=>by rw [h.cellP m hc]; exact h.cell n m hc⟩
theorem Proper.sorted {s : St} (h : Proper s) : ((markNode::markNode::s.added).filter Node.hasCell).Pairwise fun a b=>a.cellP<b.cellP:=by
 rw [List.filter_cons,if_neg (by rw [mark_no]; decide),List.filter_cons,if_neg (by rw [mark_no]; decide)]
 refine h.sort.imp_of_mem fun {a b} ha hb hlt=>?_
 rw [List.mem_filter] at ha hb
 rw [h.cellP ha.1 ha.2,h.cellP hb.1 hb.2]; exact hlt
def Named (ns : List Node) (k : Nat) (bs : List Bool) : Prop:=∀ j,bs.getD j false=true→∃ n ∈ ns.take k,n.hasCell=true∧n.cellP=((j : Nat) : Int)+1
theorem named_zero (ns : List Node) (m : Nat) : Named ns 0 (List.replicate m false):=fun j hj=>by
 rw [List.getD_eq_getElem?_getD,List.getElem?_replicate] at hj
 split at hj <;> cases hj
theorem named_skip {ns : List Node} {k : Nat} {bs : List Bool} (h : Named ns k bs) : Named ns (k+1) bs:=fun j hj=>by
 obtain ⟨n,m,h1⟩:=h j hj
 exact ⟨n,List.mem_of_mem_take (i:=k) (by rw [List.take_take,Nat.min_eq_left (by omega)]; exact m),h1⟩
theorem named_next {ns : List Node} {k j : Nat} {bs : List Bool} (h : Named ns k bs) (hk : k<ns.length) (hc : (ns.getD k {}).hasCell=true) (hj : (ns.getD k {}).cellP - 1=((j : Nat) : Int)) : Named ns (k+1) (bs.set j true):=fun i hi=>by
 by_cases e : i=j
 ·subst e
  refine ⟨ns.getD k {},?_,hc,by omega⟩
  rw [List.getD_eq_getElem?_getD,List.getElem?_eq_getElem hk,List.take_add_one,List.getElem?_eq_getElem hk]; exact List.mem_append_right _ (List.mem_singleton_self _)
 ·refine named_skip h i ?_
  rw [List.getD_eq_getElem?_getD,List.getElem?_set_ne (fun q=>e q.symm),← List.getD_eq_getElem?_getD] at hi; exact hi
theorem named_no {ns : List Node} {k j : Nat} {bs : List Bool} (hs : (ns.filter Node.hasCell).Pairwise fun a b=>a.cellP<b.cellP) (h : Named ns k bs) (hk : k<ns.length) (hc : (ns.getD k {}).hasCell=true) (hj : (ns.getD k {}).cellP - 1=((j : Nat) : Int)) : bs.getD j false=false:=by
 cases hb : bs.getD j false with
 | false=>rfl
 | true =>
  obtain ⟨m,hm,h1,h2⟩:=h j hb
  have e : ns.getD k {}=ns[k]:=by rw [List.getD_eq_getElem?_getD,List.getElem?_eq_getElem hk]; rfl
  have hns : ns=ns.take k ++ ns[k]::ns.drop (k+1):=by rw [← List.drop_eq_getElem_cons hk,List.take_append_drop]
  rw [e] at hc hj
  rw [hns,List.filter_append,List.pairwise_append] at hs
  have:=hs.2.2 m (List.mem_filter.2 ⟨hm,h1⟩) ns[k] (by rw [List.filter_cons,if_pos hc]; exact List.mem_cons_self ..)
  omega
end Go.Ct
end
section
namespace Go.Proofs.YtmliojdkmfhmmaaGreat
open Go.E
theorem sl_173 : Tryz.prog.underlying 173 = some (.slice 4):=by kernel_rfl
end Go.Proofs.YtmliojdkmfhmmaaGreat
end
section
namespace Go.Proofs.YtmliojdkmfhmmaaGreat
attribute [local irreducible] Go.E.wpL Go.E.wpS Go.E.X Go.E.XS Go.E.C Go.E.thn Go.E.blk Go.E.fin Go.E.Y Go.E.U Go.E.F Go.E.Ca Go.E.Res Go.E.bl Go.E.rb Go.E.osl Go.E.rsl Go.E.ex Go.E.ce Go.E.pu Go.E.sK Go.E.gK Go.E.bK Go.E.zK Go.E.boxA Go.E.cloA Go.E.codeA clA cdA
open Go.RowKit Go.E
def b1C (b : Bool) : List Value:=[.bool b]
theorem b1C_len (b : Bool) : (b1C b).length=1:=rfl
theorem b1C_one (b : Bool) : (b1C b).all Value.oneCell'=true:=rfl
theorem mem_getD {α : Type} {l : List α} {i : Nat} {d : α} (h : i<l.length) : l.getD i d ∈ l:=by
 rw [List.getD_eq_getElem?_getD,List.getElem?_eq_getElem h]; exact List.getElem_mem h
theorem nodes_at {zs : List (Ct.Node × Lq)} {s : Ct.St} (h : zs.map Prod.fst=nodesOf s) {k : Nat} (hk : k<zs.length) : (zs.getD k ({},{}) ∈ zs∧(zs.getD k ({},{})).1 ∈ nodesOf s)∧k<(nodesOf s).length∧(zs.getD k ({},{})).1=(nodesOf s).getD k {}:=by
 have e : zs.getD k ({},{})=zs[k]:=by rw [List.getD_eq_getElem?_getD,List.getElem?_eq_getElem hk]; rfl
 have hl : (nodesOf s).length=zs.length:=by rw [← h,List.length_map]
 refine ⟨⟨mem_getD hk,?_⟩,by omega,?_⟩
 ·rw [← h,e]; exact List.mem_map_of_mem (List.getElem_mem hk)
 ·rw [e,← h,List.getD_eq_getElem?_getD,List.getElem?_map,List.getElem?_eq_getElem hk]; rfl
theorem marks_at {zs : List (Ct.Node × Lq)} {s : Ct.St} (h : zs.map Prod.fst=nodesOf s) : (zs.getD 0 ({},{})).1.kind=1∧(zs.getD 1 ({},{})).1.kind=1:=by
 have hz:=zs_len h
 refine ⟨?_,?_⟩
 ·rw [(nodes_at h (k:=0) (by omega)).2.2]; rfl
 ·rw [(nodes_at h (k:=1) (by omega)).2.2]; rfl
variable {B w : World} {L : List As}
theorem inside_any (r : Int) (n : Nat) (h : SH B w (L)) (hr : 0≤r∧r≤((n : Nat) : Int)) :
  Calls Tryz.prog 150 #[.int .i64 r,.int .i64 ((n : Nat) : Int)] w fun e w'=>e=.returned (.bool true)∧SH B w' L:=by
 refine bn0 Tryz.func150 Tryz.ntmps150 h fun w h=>?_
 refine rz ?_
 exact ⟨by rw [show (decide ((r : Int)≤((n : Nat) : Int)))=true from decide_eq_true (by omega)],h⟩
theorem cellOf_any (n : Ct.Node) (q : Lq) (h : SH B w (L)) :
  Calls Tryz.prog 153 #[.agg (nodeC n q).toArray] w fun e w'=>e=.returned (.tuple #[.int .i64 n.cellP,.bool n.hasCell])∧SH B w' L:=by
 refine bn0 Tryz.func153 Tryz.ntmps153 h fun w h=>?_
 refine jX h fun b1 w h=>?_
 refine qc h (fun hd2 w h=>?_) fun hd2 w h=>?_
 have hg3:=eq_of_beq hd2
 refine go h fun w h=>?_
 refine rr (res2 rfl rfl rfl) ?_
 have hp : n.cellP=n.main:=by unfold Ct.Node.cellP; rw [if_pos (eq_of_beq hd2)]
 have hh : n.hasCell=true:=by unfold Ct.Node.hasCell; rw [hd2]; simp
 exact ⟨by rw [hp,hh],h.drop⟩
 have hg4:=ne_of_beq_false hd2
 refine go h fun w h=>?_
 refine j000 (nodeMain_any _ _ h.to) fun w h=>?_
 refine qc h (fun hd5 w h=>?_) fun hd5 w h=>?_
 refine rr (res2 rfl rfl rfl) ?_
 have hp : n.cellP=n.prev:=by unfold Ct.Node.cellP; rw [if_neg (ne_of_beq_false hd2),if_pos hd5]
 have hh : n.hasCell=true:=by unfold Ct.Node.hasCell; rw [hd2,hd5]; simp
 exact ⟨by rw [hp,hh],h.drop⟩
 refine qc h (fun hd6 w h=>?_) fun hd6 w h=>?_
 have hg7:=eq_of_beq hd6
 refine go h fun w h=>?_
 refine rr (res2 rfl rfl rfl) ?_
 have hp : n.cellP=n.status:=by unfold Ct.Node.cellP; rw [if_neg (ne_of_beq_false hd2),if_neg (fun q=>by rw [hd5] at q; cases q),if_pos (eq_of_beq hd6)]
 have hh : n.hasCell=true:=by unfold Ct.Node.hasCell; rw [hd2,hd5,hd6]; simp
 exact ⟨by rw [hp,hh],h.drop⟩
 have hg8:=ne_of_beq_false hd6
 refine go h fun w h=>?_
 refine rr (res2 rfl rfl rfl) ?_
 have hp : n.cellP=0:=by unfold Ct.Node.cellP; rw [if_neg (ne_of_beq_false hd2),if_neg (fun q=>by rw [hd5] at q; cases q),if_neg (ne_of_beq_false hd6)]
 have hh : n.hasCell=false:=by unfold Ct.Node.hasCell; rw [hd2,hd5,hd6]; simp
 exact ⟨by rw [hp,hh],h.drop⟩
theorem properRefs_any (s : Ct.St) (n : Ct.Node) (pb : Option Addr) (cb : Nat) (pp : Option Addr) (cp : Nat) (h : SH B w (nodeR n (⟨pb,cb,pp,cp⟩)::L)) (hp : Ct.PNode s n) (hb : n.branches.length≤1000000) :
  Calls Tryz.prog 152 #[.agg (nodeC n (⟨pb,cb,pp,cp⟩)).toArray,.int .i64 ((2+s.added.length : Nat) : Int)] w fun e w'=>e=.returned (.bool true)∧SH B w' (nodeR n ⟨pb,cb,pp,cp⟩::L):=by
 refine bn0 Tryz.func152 Tryz.ntmps152 h fun w h=>?_
 refine jX h fun b1 w h=>?_
 have h:=h.fr (.c r1 .n)
 have h:=SH.se (l:=[branchR n (⟨pb,cb,pp,cp⟩),pairR n (⟨pb,cb,pp,cp⟩)]) h
 refine go h fun w h=>?_
 refine lp (α:=Nat) (fun ρ=>(.c 1 (.int .i64 ((2+s.added.length : Nat) : Int)) (.c 2 (.pointer (some ⟨b1,0,none⟩)) (.c 8 (.slice pb n.branches.length cb) (.c 9 (.int .i64 ((n.branches.length : Nat) : Int)) (.c 10 (.int .i64 ((ρ : Nat) : Int)) .n)))))) (fun ρ w=>SH B w (rsl 1 (.slice pb n.branches.length cb) n.branches.length (n.branches.map (Value.int .i64))::rsl 2 (.slice pp n.pairs.length cp) n.pairs.length (n.pairs.flatMap pairC)::bl b1 (nodeC n (⟨pb,cb,pp,cp⟩)) 77::L)∧(ρ≤n.branches.length)) (fun ρ=>n.branches.length - ρ) 0 ⟨rfl,rfl,rfl,rfl,rfl,trivial⟩ ⟨h,Nat.zero_le _⟩ ?_
 rintro k w ⟨h,hk⟩
 refine go h fun w h=>?_
 refine qc h (fun hd2 w h=>?_) fun hd2 w h=>?_
 have hg3:=of_decide_eq_true hd2
 refine go h fun w h=>?_
 obtain ⟨b4,o5,rfl⟩:=h.fq a0 (by omega)
 refine go h fun w h=>?_
 refine j000 (inside_any _ _ h.to (hp.br _ (mem_getD (by omega)))) fun w h=>?_
 exact ⟨(k+1),⟨rfl,rfl,rfl,rfl,rfl,trivial⟩,⟨h,by (try dsimp only); omega⟩,by (try dsimp only); omega⟩
 have hg6:=of_decide_eq_false hd2
 refine go h fun w h=>?_
 refine j000 (inside_any _ _ h.to hp.old) fun w h=>?_
 refine j000 (inside_any _ _ h.to hp.ex) fun w h=>?_
 refine j000 (inside_any _ _ h.to hp.nw) fun w h=>?_
 exact rz ⟨rfl,SH.is (l:=[branchR n ⟨pb,cb,pp,cp⟩,pairR n ⟨pb,cb,pp,cp⟩]) h.to⟩
theorem nvalid_at (n : Ct.Node) (q : Lq) (h : SH B w (nodeR n q::L)) (hv : n.valid=true) (hb : n.branches.length≤1000000) (hp : n.pairs.length≤1000000000000) (hm : n.bitmap<18446744073709551616) :
  Calls Tryz.prog 151 #[.agg (nodeC n q).toArray] w fun e w'=>e=.returned (.bool true)∧SH B w' (nodeR n q::L):=nvalid_any n q.pb q.cb q.pp q.cp h hv hb hp hm
theorem properRefs_l (st : Ct.St) (n : Ct.Node) (q : Lq) (m : Nat) (hm : m=2+st.added.length) (h : SH B w (nodeR n q::L)) (hp : Ct.PNode st n) (hb : n.branches.length≤1000000) :
  Calls Tryz.prog 152 #[.agg (nodeC n q).toArray,.int .i64 ((m : Nat) : Int)] w fun e w'=>e=.returned (.bool true)∧SH B w' (nodeR n q::L):=by
 subst hm; exact properRefs_any st n q.pb q.cb q.pp q.cp h hp hb
theorem proper_any (s : Ct.St) (zs : List (Ct.Node × Lq)) (pn pc : Option Addr) (cn cc : Nat) (h : SH B w (osl 77 14 (.slice pn zs.length cn) zs.length (zs.flatMap nodeP)::osl 36 1 (.slice pc s.cells.length cc) s.cells.length (s.cells.map (Value.int .i64))::nodesF zs::L)) (hzs : zs.map Prod.fst=nodesOf s) (hp : Ct.Proper s) (hf : ∀ n ∈ nodesOf s,n.branches.length≤1000000∧n.pairs.length≤200000000000∧n.bitmap<18446744073709551616) (hr : s.size≤100000000000) :
  Calls Tryz.prog 98 #[.agg [.slice pn zs.length cn,.slice pc s.cells.length cc,.int .i64 ((s.gen : Nat) : Int)].toArray] w fun e w'=>e=.returned (.bool true)∧SH B w' (osl 77 14 (.slice pn zs.length cn) zs.length (zs.flatMap nodeP)::osl 36 1 (.slice pc s.cells.length cc) s.cells.length (s.cells.map (Value.int .i64))::nodesF zs::L):=by
 have hz2:=zs_len hzs
 have hrm : s.added.length+s.cells.length+s.gen+s.acc≤100000000000:=hr
 have hsort : ((nodesOf s).filter Ct.Node.hasCell).Pairwise _:=hp.sorted
 obtain ⟨hk0,hk1⟩:=marks_at hzs
 refine bn0 Tryz.func98 Tryz.ntmps98 h fun w h=>?_
 refine jX h fun b1 w h=>?_
 obtain ⟨b2,rfl⟩:=h.fp a1 (by omega)
 refine go h fun w h=>?_
 refine st (ld One.h rfl ((h.ro a1).x nodeP_len (by decide) (j:=0) (by omega) ({},{}) 0 _ rfl))<|go h fun w h=>?_
 refine gT rfl rfl (bneF (by omega))<|go h fun w h=>?_
 refine gT rfl rfl (bneF (by omega))<|go h fun w h=>?_
 refine gT rfl rfl (bneF (by omega))<|go h fun w h=>?_
 refine gT rfl rfl (bneF (by omega))<|go h fun w h=>?_
 refine gT rfl rfl (bneF (by omega))<|st (ld One.h rfl ((h.ro a1).x nodeP_len (by decide) (j:=1) (by omega) ({},{}) 0 _ rfl))<|gT rfl rfl (bneF (by omega))<|go h fun w h=>?_
 refine st (pF rfl (bneF (by omega)) rfl)<|go h fun w h=>?_
 refine cf rfl (bneF (by omega))<|go h fun w h=>?_
 refine lp (α:=Nat) (fun ρ=>(.c 1 (.pointer (some ⟨b1,0,none⟩)) (.c 34 (.slice pc s.cells.length cc) (.c 35 (.int .i64 ((s.cells.length : Nat) : Int)) (.c 36 (.int .i64 ((ρ : Nat) : Int)) .n))))) (fun ρ w=>SH B w (bl b1 ([.slice (some ⟨b2,0,none⟩) zs.length cn,.slice pc s.cells.length cc,.int .i64 ((s.gen : Nat) : Int)]) 62::osl 77 14 (.slice (some ⟨b2,0,none⟩) zs.length cn) zs.length (zs.flatMap nodeP)::osl 36 1 (.slice pc s.cells.length cc) s.cells.length (s.cells.map (Value.int .i64))::nodesF zs::L)∧(ρ≤s.cells.length)) (fun ρ=>s.cells.length - ρ) 0 ⟨rfl,rfl,rfl,rfl,trivial⟩ ⟨h,Nat.zero_le _⟩ ?_
 rintro k w ⟨h,hk⟩
 refine go h fun w h=>?_
 refine qc h (fun hd3 w h=>?_) fun hd3 w h=>?_
 have hg4:=of_decide_eq_true hd3
 refine go h fun w h=>?_
 obtain ⟨b5,rfl⟩:=h.fp a2 (by omega)
 refine go h fun w h=>?_
 refine j000 (inside_any _ _ h.to (by have:=hp.cells _ (mem_getD (i:=k) (l:=s.cells) (d:=0) (by omega)); omega)) fun w h=>?_
 exact ⟨(k+1),⟨rfl,rfl,rfl,rfl,trivial⟩,⟨h,by (try dsimp only); omega⟩,by (try dsimp only); omega⟩
 have hg6:=of_decide_eq_false hd3
 refine go h fun w h=>?_
 refine sf (mk h Slc.h Ss.h rfl rfl (by omega) (by unfold maxLen; omega)) ?_
 rintro _ w ⟨b7,rfl,h⟩
 refine go h fun w h=>?_
 rw [madeRows b1C_len (by decide) (d:=false) rfl] at h
 refine go h fun w h=>?_
 refine lp (α:=Nat × List Bool) (fun ρ=>(.c 1 (.pointer (some ⟨b1,0,none⟩)) (.c 5 (.slice (some ⟨b7,0,none⟩) s.cells.length s.cells.length) (.c 52 (.slice (some ⟨b2,0,none⟩) zs.length cn) (.c 53 (.int .i64 ((zs.length : Nat) : Int)) (.c 54 (.int .i64 ((ρ.1 : Nat) : Int)) .n)))))) (fun ρ w=>SH B w (osl 4 1 (.slice (some ⟨b7,0,none⟩) s.cells.length s.cells.length) s.cells.length (ρ.2.flatMap b1C)::bl b1 ([.slice (some ⟨b2,0,none⟩) zs.length cn,.slice pc s.cells.length cc,.int .i64 ((s.gen : Nat) : Int)]) 62::osl 77 14 (.slice (some ⟨b2,0,none⟩) zs.length cn) zs.length (zs.flatMap nodeP)::osl 36 1 (.slice pc s.cells.length cc) s.cells.length (s.cells.map (Value.int .i64))::nodesF zs::L)∧(Ct.Named (nodesOf s) ρ.1 ρ.2)∧(ρ.2.length=s.cells.length)∧(ρ.1≤zs.length)) (fun ρ=>zs.length - ρ.1) (0,List.replicate s.cells.length false) ⟨rfl,rfl,rfl,rfl,rfl,trivial⟩ ⟨h,(Ct.named_zero _ _),(List.length_replicate ..),(Nat.zero_le _)⟩ ?_
 rintro ⟨k,bs⟩ w ⟨h,hN,hbs,hk⟩
 dsimp only at *
 refine go h fun w h=>?_
 refine qc h (fun hd8 w h=>?_) fun hd8 w h=>?_
 have hg9:=of_decide_eq_true hd8
 refine go h fun w h=>?_
 refine st (ldr rfl ((h.ro a2).x nodeP_len (by decide) (by omega) ({},{})) Row.h)<|go h fun w h=>?_
 refine jA h fun b10 w h=>?_
 obtain ⟨hm,hkn,hnd⟩:=nodes_at hzs (k:=k) (by omega)
 have hpn:=hp.all _ hm.2
 have hfn:=hf _ hm.2
 have hfb:=hfn.1
 have hfp:=hfn.2.1
 have hfm:=hfn.2.2
 have h:=h.getN a5 hm.1
 refine go h fun w h=>?_
 refine j000 (nvalid_at _ _ h.to hpn.valid (by omega) (by omega) (by omega)) fun w h=>?_
 refine gT rfl rfl (decide_eq_false (by have:=hpn.gen; omega))<|go h fun w h=>?_
 refine gT rfl rfl (decide_eq_false (by have:=hpn.gen; omega))<|go h fun w h=>?_
 refine gT rfl rfl (decide_eq_false (by have:=hpn.gen; omega))<|go h fun w h=>?_
 refine gT rfl rfl (decide_eq_false (by have:=hpn.gen; omega))<|go h fun w h=>?_
 refine gT rfl rfl (decide_eq_false (by have:=hpn.gen; omega))<|go h fun w h=>?_
 refine j000 (properRefs_l _ _ _ _ hz2 h.to hpn (by omega)) fun w h=>?_
 refine gT rfl rfl (decide_eq_false (by have:=hpn.gen; omega))<|go h fun w h=>?_
 refine st (pF rfl (decide_eq_false (by have:=hpn.gen; omega)) rfl)<|go h fun w h=>?_
 refine j000 (cellOf_any _ _ h.to) fun w h=>?_
 refine qc h (fun hd11 w h=>?_) fun hd11 w h=>?_
 have hd12 : (zs.getD k ({},{})).1.hasCell=false:=(Bool.not_eq_true' _).mp hd11
 refine go h fun w h=>?_
 exact ⟨(k+1,bs),⟨rfl,rfl,rfl,rfl,rfl,trivial⟩,⟨h.drop.drop,(Ct.named_skip hN),by (try dsimp only); omega,by (try dsimp only); omega⟩,by (try dsimp only); omega⟩
 have hd13 : (zs.getD k ({},{})).1.hasCell=true:=(Bool.not_eq_false' _).mp hd11
 refine go h fun w h=>?_
 refine gT rfl rfl (decide_eq_false (by have:=hpn.lo hd13; omega))<|go h fun w h=>?_
 refine gT rfl rfl (decide_eq_false (by have:=hpn.lo hd13; omega))<|go h fun w h=>?_
 refine gT rfl rfl (decide_eq_false (by have:=hpn.lo hd13; omega))<|go h fun w h=>?_
 refine gT rfl rfl (decide_eq_false (by have:=hpn.lo hd13; omega))<|go h fun w h=>?_
 refine gT rfl rfl (decide_eq_false (by have:=hpn.lo hd13; omega))<|go h fun w h=>?_
 refine st (pF rfl (decide_eq_false (by have:=hpn.lo hd13; omega)) rfl)<|go h fun w h=>?_
 refine gT rfl rfl (decide_eq_false (by have:=hpn.lo hd13; omega))<|go h fun w h=>?_
 refine gT rfl rfl (decide_eq_false (by have:=hpn.lo hd13; omega))<|go h fun w h=>?_
 refine gT rfl rfl (decide_eq_false (by have:=hpn.lo hd13; omega))<|go h fun w h=>?_
 obtain ⟨j,hj⟩ : ∃ j : Nat,(zs.getD k ({},{})).1.cellP - 1=((j : Nat) : Int) :=⟨((zs.getD k ({},{})).1.cellP - 1).toNat,by have:=hpn.lo hd13; omega⟩
 have hjl : j<s.cells.length:=by have:=hpn.lo hd13; omega
 refine st (bw rfl rfl (wsub (c:=((j : Nat) : Int)) (by omega) (by omega) (by omega)))<|gT rfl rfl (decide_eq_false (by have:=hpn.lo hd13; omega))<|?_
 refine st (ix (j:=j) sl_173 sz_4 rfl rfl (by omega))<|?_
 refine go h fun w h=>?_
 refine st (ld One.h rfl ((h.ro a2).x b1C_len (by decide) (by omega) false 0 _ rfl))<|st (pF rfl (decide_eq_false (by have:=hpn.lo hd13; omega)) rfl)<|go h fun w h=>?_
 refine cf rfl (Ct.named_no hsort hN hkn (by rw [← hnd]; exact hd13) (by rw [← hnd]; exact hj))<|go h fun w h=>?_
 refine st (bw rfl rfl (wsub (c:=((j : Nat) : Int)) (by omega) (by omega) (by omega)))<|?_
 refine st (ix (j:=j) sl_173 sz_4 rfl rfl (by omega))<|?_
 refine go h fun w h=>?_
 refine sf (sor (enc:=b1C) (a:=true) h Sz.h b1C_len b1C_one rfl rfl rfl (by omega) (by omega) u2) ?_
 rintro _ w h
 refine go h fun w h=>?_
 exact ⟨(k+1,bs.set j true),⟨rfl,rfl,rfl,rfl,rfl,trivial⟩,⟨h.drop.drop,(Ct.named_next hN hkn (by rw [← hnd]; exact hd13) (by rw [← hnd]; exact hj)),by (try dsimp only); rw [List.length_set]; omega,by (try dsimp only); omega⟩,by (try dsimp only); omega⟩
 have hg14:=of_decide_eq_false hd8
 refine go h fun w h=>?_
 exact rz ⟨rfl,h.drop.drop⟩
end Go.Proofs.YtmliojdkmfhmmaaGreat
end
section
namespace Go.Proofs.YtmliojdkmfhmmaaGreat
open Go.E
theorem row_62 : rowN Tryz.prog 62 = some 3:=by kernel_rfl
theorem en_25 : Ents Tryz.prog 25:=enG Tryz.func25 rfl rfl
theorem en_40 : Ents Tryz.prog 40:=enG Tryz.func40 rfl rfl
end Go.Proofs.YtmliojdkmfhmmaaGreat
end
