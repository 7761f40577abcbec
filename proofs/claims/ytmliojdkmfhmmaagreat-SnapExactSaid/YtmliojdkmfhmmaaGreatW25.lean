/- Parts of a proof: Sa5, Sp, Qp, Sa6, Wp. -/
import Derived.Test.YtmliojdkmfhmmaaGreatW24
import Derived.Test.YtmliojdkmfhmmaaGreatW22
set_option linter.unusedVariables false
set_option linter.unusedSimpArgs false
set_option maxRecDepth 100000
set_option maxHeartbeats 4000000
section
namespace Go.Ct
variable {g : Ga}
structure Kv (g : Ga) (again : I Result) (K : Option Result→I Result) : Prop where
 fin : ∀ g',Ge g g'→GW g'→∀ r : Result,r.trie={}→Sm (.ret r) (K (some r)) g'
 rep : ∀ g',Ge g g'→GW g'→Sm again (K none) g'
theorem Kv.ge {again : I Result} {K : Option Result→I Result} {g' : Ga} (h : Kv g again K) (hg : Ge g g') : Kv g' again K :=⟨fun g2 h2=>h.fin g2 (hg.trans h2),fun g2 h2=>h.rep g2 (hg.trans h2)⟩
variable {c : Call} {again : I Result} {K : Option Result→I Result}
theorem genI {r : Int} {b : Lab} (hw : GW g) (h : isI g r b) : 1≤(g.node r).gen∧(g.node r).gen≤g.gen :=⟨(valid_vf (hw.ofI h).valid).gen h.1,((hw.ofI h).i h.1).1⟩
theorem sm_below {i m ix gen : Int} {b : Lab} {kp : Int→I Result} {kr : Int→I Result} (hw : GW g) (ht : Tk g c.trie) (hi : isI g i b) (hm : isM g m b) (hl : (blookup (g.node m) ix).2=true) (hb : isI g (blookup (g.node m) ix).1 (deeper b ix))
  (h1 : ∀ g',Ge g g'→GW g'→∀ r,isI g' r (deeper b ix)→Sm (kp r) (kr r) g') (h0 : ∀ g',Ge g g'→GW g'→Sm again (kr 0) g') :
  Sm (bif (g.node (blookup (g.node m) ix).1).gen != gen then renewT c.trie i m ix fun b=>bif b==0 then again else kp b else kp (blookup (g.node m) ix).1) ((belowI c.trie i m ix gen).bind kr) g:=by
 unfold belowI
 refine .nr hm.in_ (.nr hb.in_ ?_)
 dsimp only
 cases hg : (g.node (blookup (g.node m) ix).1).gen==gen with
 | true =>
  rw [show ((g.node (blookup (g.node m) ix).1).gen != gen)=false by unfold bne; rw [hg]; rfl]
  exact h1 g (Ge.refl hw) hw _ hb
 | false =>
  rw [show ((g.node (blookup (g.node m) ix).1).gen != gen)=true by unfold bne; rw [hg]; rfl]
  refine Sm.tt rfl (Sm.rf rfl (sm_renew hw ht hi hm hl hb fun g' hg' hw' r hr=>?_))
  rcases hr with rfl | hr
  ·exact h0 g' hg' hw'
  ·refine Sm.ff ?_ (h1 g' hg' hw' r hr)
   have:=hr.one
   exact beq_eq_false_iff_ne.2 (by omega)
theorem sm_visit {h : Nat} {gen : Int} (hro : c.trie.readOnly=false) (hh : h<18446744073709551616) (hkey : c.key.size≤64) (hg1 : 1≤gen) : ∀ (n l : Nat) (pa i : Int) (g : Ga),GW g→Tk g c.trie→isI g i (l,h % 64 ^ l)→(l=0∨isI g pa (l - 1,h % 64 ^ (l - 1)))→gen≤g.gen→Kv g again K →
  Sm (visitT c h gen again n pa i l) ((putIn c h gen n pa i l).bind K) g
 | 0,l,pa,i,g,hw,ht,hi,hp,hg,hk=>hk.rep g (Ge.refl hw) hw
 | n+1,l,pa,i,g,hw,ht,hi,hp,hg,hk=>by
  refine Sm.as (sm_read hw ht hi fun g1 h1 hw1 m hm=>?_)
  refine .nl hm.in_ (.nr hm.in_ ?_)
  dsimp only
  have hn:=hw1.ofM hm
  have hi1:=hi.ge h1
  have ht1:=ht.ge h1
  have hgg : gen≤g1.gen:=by have:=h1.gen; omega
  have hkl : ∀ (F : Int→I (Option Result)),Kl g1 again fun r=>(bif r.2==1 then I.ret (some r.1) else bif r.2==0 then .ret none else (belowI c.trie i m (slice h l) gen).bind F).bind K:=fun F=>⟨fun g' h' hw' r hr=>hk.fin g' (h1.trans h') hw' r hr,fun g' h' hw' r=>hk.rep g' (h1.trans h') hw'⟩
  rcases isM_kind hm with hk3 | hk5 | hk6
  ·rw [show ((g1.node m).kind==5)=false by rw [hk3]; rfl,show ((g1.node m).kind==6)=false by rw [hk3]; rfl,show ((g1.node m).kind==3)=true by rw [hk3]; rfl]
   simp only [cond_false,cond_true]
   rw [I.bind_assoc]
   cases hl : (blookup (g1.node m) (slice h l)).2 with
   | false=>exact sm_added hw1 ht1 hi1 hm hk3 hl hh hkey (hkl _)
   | true =>
    refine Sm.ff rfl ?_
    rcases (hn.c hk3).2.2 _ hl with hb | hb
    ·refine .nl hb.in_ (Sm.ff (by rw [hb.1]; rfl) ?_)
     have hl10:=(hn.c hk3).1
     have ed:=deeper_slice (h:=h) (l:=l) hl10
     unfold putLeafI
     refine .nr hm.in_ ?_
     dsimp only
     rw [show ((g1.node m).kind==6)=false by rw [hk3]; rfl]
     refine .nr hb.in_ ?_
     dsimp only
     rw [hl,show ((g1.node (blookup (g1.node m) (slice h l)).1).kind==2)=true by rw [hb.1]; rfl]
     show Sm _ (((belowI c.trie i m (slice h l) gen).bind fun b=>bif b==0 then .ret none else putIn c h gen n i b ((l : Int)+1)).bind K) g1
     rw [I.bind_assoc]
     refine sm_below (kp:=fun b=>visitT c h gen again n i b ((l : Int)+1)) hw1 ht1 hi1 hm hl hb (fun g' h' hw' r hr=>?_) fun g' h' hw'=>hk.rep g' (h1.trans h') hw'
     rw [show (r==0)=false from beq_eq_false_iff_ne.2 (by have:=hr.one; omega)]
     rw [ed] at hr
     exact sm_visit hro hh hkey hg1 n (l+1) i r g' hw' (ht1.ge h') hr (.inr (by show isI g' i (l,h % 64 ^ l); exact hi1.ge h')) (by have:=h'.gen; omega) (hk.ge (h1.trans h'))
    ·refine .nl hb.in_ (Sm.tt (by rw [hb.1]; rfl) ?_)
     exact sm_single hw1 ht1 hi1 hm hl hb hh hkey hg1 hgg (hkl _)
  ·have h1l:=(hn.t hk5).1
   rw [show ((g1.node m).kind==5)=true by rw [hk5]; rfl]
   simp only [cond_true]
   have hp':=(hp.resolve_left (by show ¬ l=0; have : 1≤l:=h1l; omega)).ge h1
   obtain ⟨l',rfl⟩ : ∃ l',l=l'+1 :=⟨l - 1,by have : 1≤l:=h1l; omega⟩
   have hl11 : l'+1≤11:=((hw1.ofI hi1).i hi1.1).2
   rw [show ((l'+1 : Nat) : Int) - 1=(l' : Int) by omega]
   exact Sm.as (sm_clean (b:=(l',h % 64 ^ l')) hw1 ht1 hp' rfl (.inl (by rw [deeper_slice (by omega)]; exact hi1)) fun g' h' hw' ok=>hk.rep g' (h1.trans h') hw')
  ·rw [show ((g1.node m).kind==5)=false by rw [hk6]; rfl,show ((g1.node m).kind==6)=true by rw [hk6]; rfl]
   simp only [cond_false,cond_true]
   rw [I.bind_assoc]
   exact sm_putList hw1 ht1 hi1 hm hk6 hkey (hkl _)
theorem sm_start {k : Nat} (hro : c.trie.readOnly=false) (hkey : c.key.size≤64) : ∀ (n : Nat) (g : Ga),GW g→Tk g c.trie→Sm (startT c k n) (putI c k n) g
 | 0,g,hw,ht=>.ret _ g (q0 rfl)
 | n+1,g,hw,ht=>by
  rw [putI_succ]
  refine sm_help hw ht fun g1 h1 hw1 r hr=>.nl hr.in_ (.nr hr.in_ ?_)
  obtain ⟨a1,a2⟩:=genI hw1 hr
  exact sm_visit hro (hashOf_lt' _ _) hkey a1 k 0 0 r g1 hw1 (ht.ge h1) (by simpa [Nat.mod_one] using hr) (.inl rfl) a2 ⟨fun g' h' hw' r hr=>.ret _ _ (q0 hr),fun g' h' hw'=>sm_start hro hkey n g' hw' (ht.ge (h1.trans h'))⟩
end Go.Ct
end
section
namespace Go.Ct
variable {α β : Type}
def I.acc : I α→Acc
 | .load c _=>⟨1,c,0,0⟩
 | .cas c o n _=>⟨2,c,o,n⟩
 | _=>{}
def I.ended : I α→Option α
 | .ret a=>some a
 | _=>none
def I.step : I α→St→St × I α
 | .load c k,s=>(k (s.load c).2).head (s.load c).1
 | .cas c o n k,s=>(k (s.cas c o n).2).head (s.cas c o n).1
 | t,s=>(s,t)
theorem Sh.acc [Qc α] {u u' : I α} {g : Ga} (h : Sh u u' g) : u.acc=u'.acc∧u.ended=u'.ended:=by cases h <;> exact ⟨rfl,rfl⟩
def endX (r : X × Option Result) : X:=match r.2 with
 | some v=>{ r.1 with e:={ r.1.e with done:=true,result:=v } }
 | none=>r.1
def stepX (T : I Result) (free : Nat) (x : X) : X:=endX (runI T (repeatX free x))
structure Rest (T u : I Result) (g : Ga) (e : Ex) : Prop where
 rp : Rp g T e.got e.made e.cells e.gens u
 done : e.done=u.ended.isSome
 next : u.ended=none→e.next=u.acc
 res : ∀ r,u.ended=some r→e.result=r
theorem Rest.ge {T u : I Result} {g g' : Ga} {e : Ex} (h : Rest T u g e) (k : Ge g g') : Rest T u g' e :=⟨h.rp.ge k,h.done,h.next,h.res⟩
theorem end_run {u u' : I Result} {g : Ga} (h : Sh u u' g) {x : X} (hx : x=x.atEnd) (hf : x.e.free=0) (hs : x.e.stopped=false) (hd : x.e.done=false) :
  ∃ y,endX (runI u' x)=y∧y.s=x.s∧y.e.got=x.e.got∧y.e.made=x.e.made∧y.e.cells=x.e.cells∧y.e.gens=x.e.gens∧y.e.done=u'.ended.isSome∧(u'.ended=none→y.e.next=u'.acc)∧∀ r,u'.ended=some r→y.e.result=r:=by
 have ha : x.e.a=x.e.got.length:=congrArg (fun y : X=>y.e.a) hx
 cases h with
 | ret a =>
  rw [run_ret hs]
  exact ⟨_,rfl,rfl,rfl,rfl,rfl,rfl,rfl,(fun h=>by cases h),fun r h=>by injection h⟩
 | load τ h1 h2 =>
  rw [run_load]; unfold loadR
  rw [if_neg (by rw [hs]; decide),if_neg (by omega),if_pos hf]
  exact ⟨_,rfl,rfl,rfl,rfl,rfl,rfl,hd,fun _=>rfl,fun r h=>by cases h⟩
 | load0 h2 =>
  rw [run_load]; unfold loadR
  rw [if_neg (by rw [hs]; decide),if_neg (by omega),if_pos hf]
  exact ⟨_,rfl,rfl,rfl,rfl,rfl,rfl,hd,fun _=>rfl,fun r h=>by cases h⟩
 | cas τ h1 hm h2 =>
  rw [run_cas]; unfold casR
  rw [if_neg (by rw [hs]; decide),if_neg (by omega),if_pos hf]
  exact ⟨_,rfl,rfl,rfl,rfl,rfl,rfl,hd,fun _=>rfl,fun r h=>by cases h⟩
theorem Rest.start {t T : I Result} {g : Ga} (h : Sm t T g) (hw : GW g) {x : X} (ht : Typ g x.s) (h1 : x.e.got=[]) (h2 : x.e.made=[]) (h3 : x.e.cells=[]) (h4 : x.e.gens=[]) (hd : x.e.done=false) :
  ∃ g' u u',t.head x.s=((stepX T 0 x).s,u)∧Ge g g'∧GW g'∧Typ g' (stepX T 0 x).s∧Sh u u' g'∧Rest T u' g' (stepX T 0 x).e∧(stepX T 0 x).e.got=[]:=by
 have hx : repeatX 0 x=(repeatX 0 x).atEnd:=by unfold X.atEnd repeatX; simp only [h1,h2,h3,h4,List.length_nil]
 obtain ⟨g',s',u,u',m,d,e,e1,e2,e3,e4,e5,e6,e7,e8⟩:=h.run hw (repeatX 0 x) hx ht rfl
 obtain ⟨y,f0,f1,f2,f3,f4,f5,f6,f7,f8⟩:=end_run e6 (x:=(repeatX 0 x).more s' m d e) rfl rfl rfl hd
 have hy : stepX T 0 x=y:=by unfold stepX; rw [e8,f0]
 rw [hy]
 refine ⟨g',u,u',by rw [f1]; exact e1,e3,e4,by rw [f1]; exact e5,e6,⟨?_,f6,f7,f8⟩,by rw [f2]; exact h1⟩
 rw [f2,f3,f4,f5]
 show Rp g' T x.e.got (x.e.made ++ m) (x.e.cells ++ d) (x.e.gens ++ e) u'
 rw [h1,h2,h3,h4]; exact e7
theorem Rest.step {T u u' : I Result} {g : Ga} {x : X} (h : Rest T u' g x.e) (hs : Sh u u' g) (hw : GW g) (ht : Typ g x.s) (hd : x.e.done=false) :
  ∃ g' v v',u.step x.s=((stepX T 1 x).s,v)∧Ge g g'∧GW g'∧Typ g' (stepX T 1 x).s∧Sh v v' g'∧Rest T v' g' (stepX T 1 x).e∧∃ a,(stepX T 1 x).e.got=x.e.got ++ [a]:=by
 have hr:=h.rp.run (repeatX 1 x) ht rfl (Nat.zero_le _) (Nat.zero_le _) (Nat.zero_le _) (Nat.zero_le _) rfl rfl rfl rfl
 have key : ∀ {g1 : Ga} {t t' : I Result} {v : Int} {s1 : St},Ge g g1→GW g1→Typ g1 s1→Sm t t' g1→runI u' (repeatX 1 x).atEnd=runI t' (newX v s1 (repeatX 1 x).atEnd)→Rp g1 T (x.e.got ++ [v]) x.e.made x.e.cells x.e.gens t' →
   ∃ g' w w',t.head s1=((stepX T 1 x).s,w)∧Ge g g'∧GW g'∧Typ g' (stepX T 1 x).s∧Sh w w' g'∧Rest T w' g' (stepX T 1 x).e∧∃ a,(stepX T 1 x).e.got=x.e.got ++ [a]:=by
  intro g1 t t' v s1 hg1 hw1 ht1 hm hq hp
  have hx : newX v s1 (repeatX 1 x).atEnd=(newX v s1 (repeatX 1 x).atEnd).atEnd:=by unfold newX X.atEnd repeatX; simp
  obtain ⟨g',s',w,w',m,d,e,e1,e2,e3,e4,e5,e6,e7,e8⟩:=hm.run hw1 _ hx ht1 rfl
  obtain ⟨y,f0,f1,f2,f3,f4,f5,f6,f7,f8⟩:=end_run e6 (x:=(newX v s1 (repeatX 1 x).atEnd).more s' m d e) rfl rfl rfl hd
  have hy : stepX T 1 x=y:=by unfold stepX; rw [hr,hq,e8,f0]
  rw [hy]
  refine ⟨g',w,w',by rw [f1]; exact e1,hg1.trans e3,e4,by rw [f1]; exact e5,e6,⟨?_,f6,f7,f8⟩,v,by rw [f2]; rfl⟩
  rw [f2,f3,f4,f5]
  show Rp g' T (x.e.got ++ [v]) (x.e.made ++ m) (x.e.cells ++ d) (x.e.gens ++ e) w'
  have:=(hp.ge e3).trans e7
  rwa [List.append_nil] at this
 have base : ∀ {v : Int} {t' : I Result} {g1 : Ga},Ge g g1→Rp g1 u' [v] [] [] [] t'→Rp g1 T (x.e.got ++ [v]) x.e.made x.e.cells x.e.gens t':=fun hg hp=>by
  have:=(h.rp.ge hg).trans hp
  simpa using this
 cases u with
 | ret a =>
  cases hs with
  | ret=>exact absurd h.done (by rw [hd]; simp [I.ended])
 | load c k =>
  obtain ⟨k',rfl,h1,h2⟩:=hs.onload hw ht
  obtain ⟨g',w,w',r⟩:=key (Ge.refl hw) hw h1 h2 (by
   rw [run_load]; unfold loadR X.atEnd
   rw [if_neg (by show ¬ (false=true); decide),if_neg (by dsimp only; omega),if_neg (by show ¬ (1=0); decide)]; rfl) (base (Ge.refl hw) (.load (.at_ _)))
  exact ⟨g',w,w',r⟩
 | cas c o n k =>
  obtain ⟨k',g1,rfl,a1,a2,h1,h2⟩:=hs.oncas hw ht
  obtain ⟨g',w,w',r⟩:=key (v:=bint (x.s.cas c o n).2) a1 a2 h1 h2 (by
   rw [run_cas]; unfold casR X.atEnd
   rw [if_neg (by show ¬ (false=true); decide),if_neg (by dsimp only; omega),if_neg (by show ¬ (1=0); decide)]; rfl) (base a1 (by
    have e : (bint (x.s.cas c o n).2==1)=(x.s.cas c o n).2:=by cases (x.s.cas c o n).2 <;> rfl
    refine .cas ?_
    rw [e]; exact .at_ _))
  exact ⟨g',w,w',r⟩
 | alloc n i k=>cases hs
 | cell i k=>cases hs
 | gen k=>cases hs
 | node r k=>cases hs
def FitG (g : Ga) : Prop:=∀ n ∈ g.nodes,n.Fit g.nodes.length
theorem Cst.rp {t u : I α} {g : Ga} (hg : FitG g) {l m d e : List Int} (h : Rp g t l m d e u) : ∀ {j L : Nat} {Q : Nat→Nat→α→Prop},Cst t j L Q→L≤g.nodes.length→(∀ r ∈ m,1≤r)→m.length+d.length+e.length≤j+99 * l.length:=by
 have hn : ∀ r,(g.node r).Fit g.nodes.length:=fun r=>AllFit.node (s:=g.st) hg r
 induction h with
 | at_ u=>intro j L Q h hL hm; simp
 | load _ ih=>intro j L Q h hL hm; have:=ih (h _) hL hm; simp only [List.length_cons] at *; omega
 | cas _ ih=>intro j L Q h hL hm; have:=ih (h _) hL hm; simp only [List.length_cons] at *; omega
 | alloc _ ih=>intro j L Q h hL hm; have:=ih (h.2.2 _ (hm _ (List.mem_cons_self ..))) hL (fun r hr=>hm r (List.mem_cons_of_mem _ hr)); have:=h.1; simp only [List.length_cons] at *; omega
 | cell _ ih=>intro j L Q h hL hm; have:=ih (h.2 _) hL hm; have:=h.1; simp only [List.length_cons] at *; omega
 | gen _ ih=>intro j L Q h hL hm; have:=ih (h.2 _) hL hm; have:=h.1; simp only [List.length_cons] at *; omega
 | node hr _ ih=>intro j L Q h hL hm; exact ih (h _ _ hL (hn _)) (Nat.le_refl _) hm
theorem GoodB.rp {t u : I α} {g : Ga} {a b : Nat} {Q : α→Prop} (h : GoodB a b t Q) (hg : FitG g) {l m d e : List Int} (hr : Rp g t l m d e u) (hm : ∀ r ∈ m,1≤r) : m.length+d.length+e.length≤a+99 * l.length :=
 Cst.rp hg hr (h a 0 (Nat.le_refl _)) (Nat.zero_le _) hm
end Go.Ct
end
section
namespace Go.Ct
variable {c : Call} {n : Nat}
theorem callI_r (h : refused c≠0) : callI c n=.ret { err:=refused c }:=by unfold callI; rw [if_pos h]
theorem callI_7 (h : refused c=0) (hk : c.kind=7) : callI c n=lookupI c n:=by unfold callI; simp [h,hk]
theorem callI_8 (h : refused c=0) (hk : c.kind=8) : callI c n=putI c n n:=by unfold callI; simp [h,hk]
theorem callI_9 (h : refused c=0) (hk : c.kind=9) : callI c n=dropI c n n:=by unfold callI; simp [h,hk]
theorem callI_10 (h : refused c=0) (hk : c.kind=10) : callI c n=snapshotI c.trie false n:=by unfold callI; simp [h,hk]
theorem callI_11 (h : refused c=0) (hk : c.kind=11) : callI c n=snapshotI c.trie true n:=by unfold callI; simp [h,hk]
theorem callI_12 (h : refused c=0) (hk : c.kind=12) : callI c n=clearI c.trie n:=by unfold callI; simp [h,hk]
theorem ref_key (h : refused c=0) (hk : c.kind=7∨c.kind=8∨c.kind=9) : c.key.size≤64:=by
 by_cases hs : c.key.size≤64
 ·exact hs
 ·have hv : keyValid c.key=false:=by unfold keyValid; exact decide_eq_false hs
  unfold refused at h
  rw [hv] at h
  rcases hk with hk | hk | hk <;> simp [hk] at h
theorem stepX_s {T : I Result} {free : Nat} {x y : X} {v : Result} (q : runI T (repeatX free x)=out y v) (hs : y.e.stopped=true) : stepX T free x=y:=by unfold stepX endX; rw [q,out_none hs]
theorem stepX_n {T : I Result} {free : Nat} {x y : X} {v : Result} (q : runI T (repeatX free x)=out y v) (hs : y.e.stopped=false) : stepX T free x={ y with e:={ y.e with done:=true,result:=v } }:=by unfold stepX endX; rw [q,out_some hs]
theorem Ok.ended {j : Nat} {y : X} (h : Ok j y) (d : Bool) (r : Result) : Ok j { y with e:={ y.e with done:=d,result:=r } } :=⟨h.fit,h.room,h.big,h.a,h.m,h.c,h.g,h.made,h.free⟩
end Go.Ct
end
section
namespace Go.Ct
variable {g : Ga} {c : Call} {again : I Result}
theorem ok_shrunk {n : Node} {b : Lab} {key : ByteArray} (hn : NodeOk g n b) (hk : n.kind=6) (hf : (pfind n.pairs key).2=true) : NodeOk g (shrunk n key).1 b∧(shrunk n key).2=true∧(shrunk n key).1.isMain=true:=by
 have hL:=isL_ok hn hk
 have vf:=valid_vf hn.valid
 have hp:=vf.sorted hk
 have h2:=vf.pairs hk
 have hs:=(keysShort_iff _).1 (vf.short hk)
 have hl:=pdrop_len n.pairs key hp
 by_cases h1 : (pdrop n.pairs key).length=1
 ·rw [sh_one hL hf h1]
  have hm : (pdrop n.pairs key).getD 0 ⟨.empty,0⟩ ∈ pdrop n.pairs key:=by
   rw [List.getD_eq_getElem?_getD,List.getElem?_eq_getElem (by omega)]; exact List.getElem_mem (by omega)
  exact ⟨ok_key (.inr rfl) hn.hash (hs _ (pdrop_mem _ _ _ hm)) fun _=>⟨by have:=(hn.l hk).1; omega,(hn.l hk).2⟩,rfl,rfl⟩
 ·rw [sh_more hL hf h1]
  exact ⟨ok_list hn.hash (by omega) (pdrop_sorted _ _ hp) (fun q hq=>hs q (pdrop_mem _ _ _ hq)) (hn.l hk),rfl,rfl⟩
theorem pop_zero {b : Nat} : ∀ n,(∀ k,k<n→b.testBit k=false)→Bm.pop n b=0
 | 0,_=>by simp [Bm.pop]
 | n+1,h=>by rw [Bm.pop_testBit,pop_zero n fun k hk=>h k (by omega),h n (by omega)]; rfl
theorem sole_at {n : Node} (h : (bsole n).2=true) : ∃ k,(blookup n k).2=true∧(blookup n k).1=(bsole n).1:=by
 unfold bsole at h ⊢
 split at h
 ·cases h
 ·rename_i q
  rw [if_neg q]
  simp only [not_or,Bool.not_eq_false,Classical.not_not] at q
  have hl:=C_facts q.1
  have hex : ∃ k,k<64∧n.bitmap.testBit k=true:=by
   refine Classical.byContradiction fun hno=>?_
   have:=pop_zero (b:=n.bitmap) 64 fun k hk=>by
    cases hb : n.bitmap.testBit k with
    | true=>exact absurd ⟨k,hk,hb⟩ hno
    | false=>rfl
   omega
  obtain ⟨k,hk,hb⟩:=hex
  have hp:=pop_bit hb hk
  refine ⟨k,?_,?_⟩
  ·rw [blookup_at q.1 hk,if_pos hb]
  ·rw [blookup_at q.1 hk,if_pos hb,show Bm.pop k n.bitmap=0 by omega]
structure Kd (g : Ga) (c : Call) (path : List Int) (h : Nat) (again : I Result) (k' : Result × Int→I Result) : Prop where
 fin : ∀ g',Ge g g'→GW g'→∀ r : Result,r.count=0→r.trie={}→Sm (.ret r) (k' (r,1)) g'
 rep : ∀ g',Ge g g'→GW g'→∀ r,Sm again (k' (r,0)) g'
 up : ∀ g',Ge g g'→GW g'→∀ v,Sm (upT c path h v (path.length - 1)) (k' (swappedR true v,1)) g'
theorem Kd.ge {path : List Int} {h : Nat} {k' : Result × Int→I Result} {g' : Ga} (hk : Kd g c path h again k') (hg : Ge g g') : Kd g' c path h again k' :=⟨fun g2 h2=>hk.fin g2 (hg.trans h2),fun g2 h2=>hk.rep g2 (hg.trans h2),fun g2 h2=>hk.up g2 (hg.trans h2)⟩
variable {path : List Int} {h : Nat} {k' : Result × Int→I Result}
theorem sm_dropRepl {i m : Int} {n : Node} {v : Nat} {b : Lab} (hw : GW g) (ht : Tk g c.trie) (hi : isI g i b) (hm : isM g m b) (hn : NodeOk g n b∧n.isMain=true) (hk : Kd g c path h again k') :
  Sm (dropReplT c again path h i m n v) ((I.alloc n m fun r=>(gcasI c.trie i m r).bind (swappedI true v)).bind k') g:=by
 refine .alloc b hn.1 (init_main hn.2 (.inr hm)) fun h1 hw1=>?_
 refine Sm.as (u:=gcasI c.trie i m _) (sm_swap hw1 (ht.ge h1) (hi.ge h1) (alloc_isM hw hn.2) fun g2 h2 hw2 ok=>?_)
 cases ok with
 | true=>exact hk.up g2 (h1.trans h2) hw2 _
 | false=>exact hk.rep g2 (h1.trans h2) hw2 _
theorem not_meant (c : Call) (v : Nat) : (!meantC c v)=(c.only && v != c.expect):=by
 unfold meantC bne
 cases c.only <;> cases (v==c.expect) <;> rfl
theorem sm_dropList {i m : Int} {level : Int} {b : Lab} (hw : GW g) (ht : Tk g c.trie) (hi : isI g i b) (hm : isM g m b) (hk6 : (g.node m).kind=6) (hk : Kd g c path h again k') :
  Sm (dropListT c again path h i m (g.node m)) ((dropLeafI c i m h level).bind k') g:=by
 unfold dropListT dropLeafI
 refine .nr hm.in_ ?_
 dsimp only
 rw [show ((g.node m).kind==6)=true by rw [hk6]; rfl,not_meant]
 cases hf : (pfind (g.node m).pairs c.key).2 with
 | false=>rw [pfind_no hf]; exact hk.fin g (Ge.refl hw) hw _ rfl rfl
 | true =>
  cases ho : (c.only && (pfind (g.node m).pairs c.key).1 != c.expect) with
  | true=>exact hk.fin g (Ge.refl hw) hw _ rfl rfl
  | false =>
   obtain ⟨o1,o2,o3⟩:=ok_shrunk (hw.ofM hm) hk6 hf
   refine Sm.ff rfl (Sm.ff rfl (Sm.ff (by rw [o2]; rfl) ?_))
   exact sm_dropRepl hw ht hi hm ⟨o1,o3⟩ hk
theorem node0 (g : Ga) : g.node 0={}:=by rw [node_eq,if_pos (.inl (by decide))]
theorem sm_dropAt {i m : Int} {l : Nat} (hw : GW g) (ht : Tk g c.trie) (hi : isI g i (l,h % 64 ^ l)) (hm : isM g m (l,h % 64 ^ l)) (hl : (blookup (g.node m) (slice h l)).2=true) (hs : isS g (blookup (g.node m) (slice h l)).1 (deeper (l,h % 64 ^ l) (slice h l))) (hk : Kd g c path h again k') :
  Sm (dropAtT c again path h i m (g.node m) l (g.node (blookup (g.node m) (slice h l)).1)) ((dropLeafI c i m h l).bind k') g:=by
 have hk3:=bl_kind hl
 have hn:=hw.ofM hm
 obtain ⟨r1,r2⟩:=ok_removed (i:=slice h l) hn hk3 hl
 unfold dropAtT dropLeafI
 refine .nr hm.in_ ?_
 dsimp only
 rw [show ((g.node m).kind==6)=false by rw [hk3]; rfl]
 refine .nr hs.in_ ?_
 dsimp only
 rw [hl,show ((g.node (blookup (g.node m) (slice h l)).1).kind==2)=false by rw [hs.1]; rfl,not_meant]
 cases hq : keyEq (g.node (blookup (g.node m) (slice h l)).1).key c.key with
 | false=>exact hk.fin g (Ge.refl hw) hw _ rfl rfl
 | true =>
  cases ho : (c.only && (g.node (blookup (g.node m) (slice h l)).1).value != c.expect) with
  | true=>exact hk.fin g (Ge.refl hw) hw _ rfl rfl
  | false =>
   refine Sm.ff rfl (Sm.ff rfl ?_)
   show Sm _ ((I.node (bsole (premoved (g.node m) (slice h l)).1).1 fun q=>.alloc (contracted (premoved (g.node m) (slice h l)).1 l q) m fun r=>(gcasI c.trie i m r).bind (swappedI true (g.node (blookup (g.node m) (slice h l)).1).value)).bind k') g
   cases hsl : (bsole (premoved (g.node m) (slice h l)).1).2 with
   | true =>
    obtain ⟨k,k1,k2⟩:=sole_at hsl
    have hb:=(r1.c r2).2.2 k k1
    rw [k2] at hb
    have hin:=hb.elim isI.in_ isS.in_
    refine .nl hin (.nr hin ?_)
    refine sm_dropRepl hw ht hi hm (ok_contracted (i:=k) r1 r2 (fun h4=>?_) rfl) hk
    rcases hb with hb | hb
    ·rw [hb.1] at h4; cases h4
    ·exact ⟨(hw.ofS hb).hash,(hw.ofS hb).key,hb.2⟩
   | false =>
    have hz : (bsole (premoved (g.node m) (slice h l)).1).1=0:=by
     unfold bsole at hsl ⊢
     split
     ·rfl
     ·rename_i q; rw [if_neg q] at hsl; cases hsl
    rw [hz]
    refine .nr (zero_in g) ?_
    dsimp only
    rw [node0]
    exact sm_dropRepl hw ht hi hm (ok_contracted (i:=0) r1 r2 (fun h4=>by cases h4) rfl) hk
theorem sm_up {v : Nat} {K' : Unit→I Result} : ∀ (l : Nat) (g : Ga),GW g→Tk g c.trie→l≤11→(∀ j,j≤l→isI g (path.getD j 0) (j,h % 64 ^ j))→(∀ g',Ge g g'→GW g'→Sm (.ret (swappedR true v)) (K' ()) g')→Sm (upT c path h v l) ((upI c.trie path h l).bind K') g
 | 0,g,hw,ht,hl,hp,hk=>hk g (Ge.refl hw) hw
 | l+1,g,hw,ht,hl,hp,hk=>by
  refine Sm.as (sm_read hw ht (hp (l+1) (Nat.le_refl _)) fun g1 h1 hw1 m hm=>.nl hm.in_ (.nr hm.in_ ?_))
  refine Sm.cc (fun _=>hk g1 h1 hw1) fun _=>?_
  refine Sm.as (sm_clean (b:=(l,h % 64 ^ l)) hw1 (ht.ge h1) ((hp l (by omega)).ge h1) rfl (.inl ?_) fun g2 h2 hw2 ok=>?_)
  ·rw [deeper_slice (by omega)]; exact (hp (l+1) (Nat.le_refl _)).ge h1
  ·exact sm_up l g2 hw2 (ht.ge (h1.trans h2)) (by omega) (fun j hj=>(hp j (by omega)).ge (h1.trans h2)) fun g' h' hw'=>hk g' ((h1.trans h2).trans h') hw'
def Path (g : Ga) (path : List Int) (h l : Nat) : Prop:=path.length=l+1∧∀ j,j≤l→isI g (path.getD j 0) (j,h % 64 ^ j)
theorem Path.ge {g' : Ga} {l : Nat} (hp : Path g path h l) (hg : Ge g g') : Path g' path h l :=⟨hp.1,fun j hj=>(hp.2 j hj).ge hg⟩
theorem Path.snoc {l : Nat} {b : Int} (hp : Path g path h l) (hb : isI g b (l+1,h % 64 ^ (l+1))) : Path g (path ++ [b]) h (l+1):=by
 refine ⟨by rw [List.length_append,hp.1]; rfl,fun j hj=>?_⟩
 by_cases e : j=l+1
 ·subst e
  rw [List.getD_eq_getElem?_getD,List.getElem?_append_right (by rw [hp.1]; exact Nat.le_refl _),hp.1]; simpa using hb
 ·rw [List.getD_eq_getElem?_getD,List.getElem?_append_left (by rw [hp.1]; omega),← List.getD_eq_getElem?_getD]; exact hp.2 j (by omega)
variable {K : Option Result→I Result}
theorem sm_dropVisit {gen : Int} (hro : c.trie.readOnly=false) (hg1 : 1≤gen) : ∀ (n l : Nat) (path : List Int) (i : Int) (g : Ga),GW g→Tk g c.trie→Path g path h l→path.getD l 0=i→gen≤g.gen→Kv g again K →
  Sm (dropVisitT c h gen again n path i l) ((dropIn c h gen n path i l).bind K) g
 | 0,l,path,i,g,hw,ht,hp,he,hg,hk=>hk.rep g (Ge.refl hw) hw
 | n+1,l,path,i,g,hw,ht,hp,he,hg,hk=>by
  have hi : isI g i (l,h % 64 ^ l):=by rw [← he]; exact hp.2 l (Nat.le_refl _)
  refine Sm.as (sm_read hw ht hi fun g1 h1 hw1 m hm=>?_)
  refine .nl hm.in_ (.nr hm.in_ ?_)
  dsimp only
  have hn:=hw1.ofM hm
  have hi1:=hi.ge h1
  have ht1:=ht.ge h1
  have hp1:=hp.ge h1
  have hl11 : l≤11:=((hw1.ofI hi1).i hi1.1).2
  have hkl : ∀ (F : Int→I (Option Result)),Kd g1 c path h again fun r=>(bif r.2==1 then bif r.1.count==1 then (upI c.trie path h (path.length - 1)).bind fun _=>I.ret (some r.1) else .ret (some r.1) else bif r.2==0 then .ret none else (belowI c.trie i m (slice h l) gen).bind F).bind K:=fun F=>by
   refine ⟨fun g' h' hw' r hr ht0=>?_,fun g' h' hw' r=>hk.rep g' (h1.trans h') hw',fun g' h' hw' v=>?_⟩
   ·show Sm (.ret r) ((bif r.count==1 then (upI c.trie path h (path.length - 1)).bind fun _=>I.ret (some r) else .ret (some r)).bind K) g'
    rw [hr]; exact hk.fin g' (h1.trans h') hw' r ht0
   ·show Sm _ (((upI c.trie path h (path.length - 1)).bind fun _=>I.ret (some (swappedR true v))).bind K) g'
    rw [show path.length - 1=l by rw [hp.1]; omega]
    exact Sm.as (sm_up l g' hw' (ht1.ge h') hl11 (fun j hj=>(hp1.2 j hj).ge h') fun g2 h2 hw2=>hk.fin g2 ((h1.trans h').trans h2) hw2 _ rfl)
  rcases isM_kind hm with hk3 | hk5 | hk6
  ·rw [show ((g1.node m).kind==5)=false by rw [hk3]; rfl,show ((g1.node m).kind==6)=false by rw [hk3]; rfl,show ((g1.node m).kind==3)=true by rw [hk3]; rfl]
   simp only [cond_false,cond_true]
   rw [I.bind_assoc]
   cases hl : (blookup (g1.node m) (slice h l)).2 with
   | false =>
    have hz : (blookup (g1.node m) (slice h l)).1=0:=by
     rcases bl_no hl with q | q
     ·rw [bl_no1 q]
     ·rw [bl_no2 q]
    unfold dropLeafI
    refine .nr hm.in_ ?_
    dsimp only
    rw [show ((g1.node m).kind==6)=false by rw [hk3]; rfl,hl,hz]
    refine .nr (zero_in g1) ?_
    exact (hkl fun b=>bif b==0 then .ret none else dropIn c h gen n (path ++ [b]) b ((l : Int)+1)).fin g1 (Ge.refl hw1) hw1 _ rfl rfl
   | true =>
    refine Sm.ff rfl ?_
    rcases (hn.c hk3).2.2 _ hl with hb | hb
    ·refine .nl hb.in_ (Sm.ff (by rw [hb.1]; rfl) ?_)
     have hl10:=(hn.c hk3).1
     have ed:=deeper_slice (h:=h) (l:=l) hl10
     unfold dropLeafI
     refine .nr hm.in_ ?_
     dsimp only
     rw [show ((g1.node m).kind==6)=false by rw [hk3]; rfl]
     refine .nr hb.in_ ?_
     dsimp only
     rw [hl,show ((g1.node (blookup (g1.node m) (slice h l)).1).kind==2)=true by rw [hb.1]; rfl]
     show Sm _ (((belowI c.trie i m (slice h l) gen).bind fun b=>bif b==0 then .ret none else dropIn c h gen n (path ++ [b]) b ((l : Int)+1)).bind K) g1
     rw [I.bind_assoc]
     refine sm_below (kp:=fun b=>dropVisitT c h gen again n (path ++ [b]) b (l+1)) hw1 ht1 hi1 hm hl hb (fun g' h' hw' r hr=>?_) fun g' h' hw'=>hk.rep g' (h1.trans h') hw'
     rw [show (r==0)=false from beq_eq_false_iff_ne.2 (by have:=hr.one; omega)]
     rw [ed] at hr
     refine sm_dropVisit hro hg1 n (l+1) (path ++ [r]) r g' hw' (ht1.ge h') ((hp1.ge h').snoc hr) ?_ (by have:=(h1.trans h').gen; omega) (hk.ge (h1.trans h'))
     rw [List.getD_eq_getElem?_getD,List.getElem?_append_right (by rw [hp.1]; exact Nat.le_refl _),hp.1]; simp
    ·refine .nl hb.in_ (Sm.tt (by rw [hb.1]; rfl) ?_)
     exact sm_dropAt hw1 ht1 hi1 hm hl hb (hkl _)
  ·have h1l : 1≤l:=(hn.t hk5).1
   rw [show ((g1.node m).kind==5)=true by rw [hk5]; rfl,show decide (0<l)=true from decide_eq_true (by omega)]
   simp only [cond_true]
   obtain ⟨l',rfl⟩ : ∃ l',l=l'+1 :=⟨l - 1,by omega⟩
   rw [show ((l'+1 : Nat) : Int) - 1=(l' : Int) by omega,Int.toNat_natCast]
   exact Sm.as (sm_clean (b:=(l',h % 64 ^ l')) hw1 ht1 (hp1.2 l' (by omega)) rfl (.inl (by rw [deeper_slice (by omega)]; exact hi1)) fun g' h' hw' ok=>hk.rep g' (h1.trans h') hw')
  ·rw [show ((g1.node m).kind==5)=false by rw [hk6]; rfl,show ((g1.node m).kind==6)=true by rw [hk6]; rfl]
   simp only [cond_false,cond_true]
   rw [I.bind_assoc]
   exact sm_dropList hw1 ht1 hi1 hm hk6 (hkl _)
theorem sm_dropStart {k : Nat} (hro : c.trie.readOnly=false) : ∀ (n : Nat) (g : Ga),GW g→Tk g c.trie→Sm (dropStartT c k n) (dropI c k n) g
 | 0,g,hw,ht=>.ret _ g (q0 rfl)
 | n+1,g,hw,ht=>by
  rw [dropI_succ]
  refine sm_help hw ht fun g1 h1 hw1 r hr=>.nl hr.in_ (.nr hr.in_ ?_)
  obtain ⟨a1,a2⟩:=genI hw1 hr
  have hP : Path g1 [r] (hashOf c.key c.mask) 0 :=⟨rfl,fun j hj=>by
   obtain rfl : j=0:=by omega
   simpa [Nat.mod_one] using hr⟩
  exact sm_dropVisit hro a1 k 0 [r] r g1 hw1 (ht.ge h1) hP rfl a2 ⟨fun g' h' hw' r hr=>.ret _ _ (q0 hr),fun g' h' hw'=>sm_dropStart hro n g' hw' (ht.ge (h1.trans h'))⟩
structure CallOk (g : Ga) (c : Call) : Prop where
 lo : 7≤c.kind
 hi : c.kind≤12
 trie : Tk g c.trie
 ro : c.kind=8∨c.kind=9∨c.kind=12→c.trie.readOnly=false
theorem CallOk.ge {g' : Ga} (h : CallOk g c) (k : Ge g g') : CallOk g' c :=⟨h.lo,h.hi,h.trie.ge k,h.ro⟩
theorem refused8 {c : Call} (h : c.kind=8) : refused c=bif !keyValid c.key || (decide (c.policy<0) || decide (c.policy>3)) then 1 else 0:=by
 have e : refused c=bif keyValid c.key && decide (0≤c.policy) && decide (c.policy≤3) then 0 else 1:=by unfold refused; rw [h]; rfl
 have e0 : decide (c.policy<0) = !decide (0≤c.policy):=by rw [← decide_not]; exact decide_eq_decide.2 (by omega)
 have e3 : decide (c.policy>3) = !decide (c.policy≤3):=by rw [← decide_not]; exact decide_eq_decide.2 (by omega)
 rw [e,e0,e3]
 cases keyValid c.key <;> cases decide (0≤c.policy) <;> cases decide (c.policy≤3) <;> rfl
theorem refused79 {c : Call} (h : c.kind=7∨c.kind=9) : refused c=bif keyValid c.key then 0 else 1:=by
 unfold refused; rcases h with h | h <;> rw [h] <;> rfl
theorem refused_no {c : Call} (h : c.kind=10∨c.kind=11∨c.kind=12) : refused c=0:=by
 unfold refused; rcases h with h | h | h <;> rw [h] <;> rfl
theorem sm_call {n : Nat} (hw : GW g) (h : CallOk g c) : Sm (progT c n) (callI c n) g:=by
 have hlo:=h.lo
 have hhi:=h.hi
 unfold progT
 by_cases hr : refused c=0
 ·by_cases h7 : c.kind=7
  ·rw [if_pos h7,callI_7 hr h7]
   have hk:=ref_key hr (.inl h7)
   refine Sm.ff (by rw [show keyValid c.key=true from decide_eq_true hk]; rfl) (sm_find n hw h.trie)
  rw [if_neg h7]
  by_cases h8 : c.kind=8
  ·rw [if_pos h8,callI_8 hr h8]
   have hk:=ref_key hr (.inr (.inl h8))
   have hv : keyValid c.key=true:=decide_eq_true hk
   rw [refused8 h8] at hr
   cases hb : (!keyValid c.key || (decide (c.policy<0) || decide (c.policy>3))) with
   | true=>rw [hb] at hr; cases hr
   | false=>exact Sm.ff hb (sm_start (h.ro (.inl h8)) hk n g hw h.trie)
  rw [if_neg h8]
  by_cases h9 : c.kind=9
  ·rw [if_pos h9,callI_9 hr h9]
   have hk:=ref_key hr (.inr (.inr h9))
   exact Sm.ff (by rw [show keyValid c.key=true from decide_eq_true hk]; rfl) (sm_dropStart (h.ro (.inr (.inl h9))) n g hw h.trie)
  rw [if_neg h9]
  by_cases h10 : c.kind=10
  ·rw [if_pos h10,callI_10 hr h10]; exact sm_snapshot n hw h.trie
  rw [if_neg h10]
  by_cases h11 : c.kind=11
  ·rw [if_pos h11,callI_11 hr h11]; exact sm_freeze n hw h.trie
  rw [if_neg h11,callI_12 hr (by omega)]
  exact sm_clear (h.ro (.inr (.inr (by omega)))) n g hw h.trie
 ·rw [callI_r hr]
  by_cases h79 : c.kind=7∨c.kind=9
  ·rw [refused79 h79] at hr ⊢
   cases hv : keyValid c.key with
   | true=>rw [hv] at hr; exact absurd rfl hr
   | false =>
    rcases h79 with h | h
    ·rw [if_pos h]; exact Sm.tt (by rw [hv]; rfl) (.ret _ g (q0 rfl))
    ·rw [if_neg (by omega),if_neg (by omega),if_pos h]; exact Sm.tt (by rw [hv]; rfl) (.ret _ g (q0 rfl))
  ·by_cases h8 : c.kind=8
   ·rw [refused8 h8] at hr ⊢
    rw [if_neg (by omega),if_pos h8]
    cases hb : (!keyValid c.key || (decide (c.policy<0) || decide (c.policy>3))) with
    | true=>exact Sm.tt hb (.ret _ g (q0 rfl))
    | false=>rw [hb] at hr; exact absurd rfl hr
   ·exact absurd (refused_no (by omega)) hr
end Go.Ct
end
section
namespace Go.Ct
variable {g : Ga}
def X.wt (x : X) : Nat:=x.e.got.length+2 * x.e.made.length+x.e.cells.length+x.e.gens.length
def Bal (x y : X) : Prop:=y.s.size+x.wt≤x.s.size+y.wt
theorem Bal.refl (x : X) : Bal x x:=Nat.le_refl _
theorem Bal.trans {x y z : X} (h : Bal x y) (k : Bal y z) : Bal x z:=by unfold Bal at *; omega
theorem newCell_size (s : St) (i : Int) : (s.newCell i).1.size=s.size+1:=by unfold St.newCell St.size; simp; omega
theorem newGen_size (s : St) : s.newGen.1.size=s.size+1:=by unfold St.newGen St.size; simp; omega
theorem loadR_bal {c : Int} {x y : X} {o : Option Int} (h : loadR c x=(y,o)) : Bal x y:=by
 unfold loadR oldX stopX newX at h; repeat' split at h
 all_goals (cases h; unfold Bal X.wt; try dsimp only)
 all_goals first
  | exact Nat.le_refl _
  | (rw [List.length_append,List.length_singleton]; have:=(St.load_size x.s c).1; omega)
theorem casR_bal {c a n : Int} {x y : X} {o : Option Bool} (h : casR c a n x=(y,o)) : Bal x y:=by
 unfold casR oldX stopX newX at h; repeat' split at h
 all_goals (cases h; unfold Bal X.wt; try dsimp only)
 all_goals first
  | exact Nat.le_refl _
  | (rw [List.length_append,List.length_singleton]; have:=(St.cas_size x.s c a n).1; omega)
theorem allocR_bal {n : Node} {i : Int} {x y : X} {o : Option Int} (h : allocR n i x=(y,o)) : Bal x y:=by
 unfold allocR at h; repeat' split at h
 all_goals (cases h; unfold Bal X.wt; try dsimp only)
 all_goals first
  | exact Nat.le_refl _
  | (rw [List.length_append,List.length_singleton]; have:=(St.alloc_size x.s n i).1; omega)
theorem cellR_bal {i : Int} {x y : X} {o : Option Int} (h : cellR i x=(y,o)) : Bal x y:=by
 unfold cellR at h; repeat' split at h
 all_goals (cases h; unfold Bal X.wt; try dsimp only)
 all_goals first
  | exact Nat.le_refl _
  | (rw [List.length_append,List.length_singleton]; have:=newCell_size x.s i; omega)
theorem genR_bal {x y : X} {o : Option Int} (h : genR x=(y,o)) : Bal x y:=by
 unfold genR at h; repeat' split at h
 all_goals (cases h; unfold Bal X.wt; try dsimp only)
 all_goals first
  | exact Nat.le_refl _
  | (rw [List.length_append,List.length_singleton]; have:=newGen_size x.s; omega)
theorem andR_bal {α β : Type} {r : X × Option α} {f : α→X→X × Option β} {x y : X} {o : Option β} (hr : ∀ z o,r=(z,o)→Bal x z) (hf : ∀ v z o,f v z=(y,o)→Bal z y) (h : andR r f=(y,o)) : Bal x y:=by
 obtain ⟨z,p⟩:=r
 cases p with
 | none=>cases h; exact hr _ _ rfl
 | some v=>exact (hr _ _ rfl).trans (hf v z o h)
theorem runI_bal {α : Type} : ∀ {t : I α} {x y : X} {o : Option α},runI t x=(y,o)→Bal x y
 | .ret a,x,y,o,h=>by unfold runI at h; split at h <;> (cases h; exact Bal.refl _)
 | .load c k,x,y,o,h=>andR_bal (fun _ _=>loadR_bal) (fun v z o h=>runI_bal h) h
 | .cas c a n k,x,y,o,h=>andR_bal (fun _ _=>casR_bal) (fun v z o h=>runI_bal h) h
 | .alloc n i k,x,y,o,h=>andR_bal (fun _ _=>allocR_bal) (fun v z o h=>runI_bal h) h
 | .cell i k,x,y,o,h=>andR_bal (fun _ _=>cellR_bal) (fun v z o h=>runI_bal h) h
 | .gen k,x,y,o,h=>andR_bal (fun _ _=>genR_bal) (fun v z o h=>runI_bal h) h
 | .node r k,x,y,o,h=>by unfold runI at h; exact runI_bal h
theorem stepX_bal (T : I Result) (free : Nat) (x : X) : (stepX T free x).s.size+x.wt≤x.s.size+(stepX T free x).wt:=by
 have h:=runI_bal (t:=T) (x:=repeatX free x) (y:=(runI T (repeatX free x)).1) (o:=(runI T (repeatX free x)).2) rfl
 have e : (repeatX free x).wt=x.wt∧(repeatX free x).s=x.s :=⟨rfl,rfl⟩
 unfold Bal at h
 rw [e.1,e.2] at h
 unfold stepX endX
 split <;> exact h
theorem stepX_call (T : I Result) (free : Nat) (x : X) : (stepX T free x).e.call=x.e.call:=by
 have h:=runI_call (t:=T) (x:=repeatX free x) (y:=(runI T (repeatX free x)).1) (o:=(runI T (repeatX free x)).2) rfl
 unfold stepX endX
 split <;> exact h
def FU : Nat:=100000000
def most : Nat:=2000000
structure Er (g : Ga) (e : Ex) (u u' : I Result) : Prop where
 ok : CallOk g e.call
 mask : e.call.mask<18446744073709551616
 key : e.call.key.size≤9223372036854775807
 sh : Sh u u' g
 rest : Rest (callI e.call FU) u' g e
 made : ∀ r ∈ e.made,1≤r∧r≤200000000000
 few : e.got.length≤most
theorem Er.ge {g' : Ga} {e : Ex} {u u' : I Result} (h : Er g e u u') (hw : GW g) (k : Ge g g') : Er g' e u u' :=⟨h.ok.ge k,h.mask,h.key,h.sh.ge k hw,h.rest.ge k,h.made,h.few⟩
theorem Typ.fitG {s : St} (h : Typ g s) (hf : AllFit s) : FitG g:=by unfold FitG; rw [← h.nodes]; exact hf
theorem refused_key8 {c : Call} (hk : c.kind=8) (h : refused c=0) : c.key.size≤64:=ref_key h (.inr (.inl hk))
theorem Er.units {e : Ex} {u u' : I Result} (h : Er g e u u') (hf : FitG g) : e.made.length+e.cells.length+e.gens.length≤60+99 * e.got.length :=
 (good_call e.call FU refused_key8).rp hf h.rest.rp fun r hr=>(h.made r hr).1
theorem Er.result {e : Ex} {u u' : I Result} (h : Er g e u u') (hd : e.done=true) : e.result.trie.root≤0∨Tk g e.result.trie:=by
 have hu : u'.ended.isSome=true:=by rw [← h.rest.done]; exact hd
 have hs:=h.sh
 have hr:=h.rest.res
 cases hs with
 | ret a _ hq=>rw [hr a rfl]; exact hq
 | load τ h1 h2=>cases hu
 | load0 h2=>cases hu
 | cas τ h1 hm h2=>cases hu
def room : Nat:=90000000000
theorem Er.ready {e : Ex} {s : St} {u u' : I Result} (h : Er g e u u') (ht : Typ g s) (hf : AllFit s) (hs : s.size≤room) : Ok 60 (repeatX 1 ⟨e,s⟩)∧(repeatX 1 ⟨e,s⟩).left<FU:=by
 have hu:=h.units (ht.fitG hf)
 have hm:=h.few
 unfold most at hm
 unfold room at hs
 have hl : (repeatX 1 ⟨e,s⟩).left=e.got.length+1:=rfl
 have hz : (repeatX 1 ⟨e,s⟩).size=s.size+e.got.length+e.made.length+e.cells.length+e.gens.length:=rfl
 refine ⟨⟨hf,.inr ?_,?_,Nat.zero_le _,Nat.zero_le _,Nat.zero_le _,Nat.zero_le _,h.made,by show 1≤10; decide⟩,by rw [hl]; unfold FU; omega⟩
 ·rw [hl,hz]; unfold roomMax; omega
 ·rw [hz]; unfold roomMax; omega
theorem Er.step {e : Ex} {s : St} {u u' : I Result} (h : Er g e u u') (hw : GW g) (ht : Typ g s) (hf : AllFit s) (hd : e.done=false) (hn : e.got.length<most) (hok : Ok 50 (stepX (callI e.call FU) 1 ⟨e,s⟩)) :
  ∃ g' v v',u.step s=((stepX (callI e.call FU) 1 ⟨e,s⟩).s,v)∧Ge g g'∧GW g'∧Typ g' (stepX (callI e.call FU) 1 ⟨e,s⟩).s∧AllFit (stepX (callI e.call FU) 1 ⟨e,s⟩).s∧Er g' (stepX (callI e.call FU) 1 ⟨e,s⟩).e v v' ∧
   (stepX (callI e.call FU) 1 ⟨e,s⟩).e.got.length=e.got.length+1∧(stepX (callI e.call FU) 1 ⟨e,s⟩).s.size+(X.mk e s).wt≤s.size+(199 * (e.got.length+1)+120)∧(stepX (callI e.call FU) 1 ⟨e,s⟩).wt≤199 * (e.got.length+1)+120:=by
 obtain ⟨g',v,v',h1,h2,h3,h4,h5,h6,a,h7⟩:=h.rest.step (x :=⟨e,s⟩) h.sh hw ht hd
 have hc:=stepX_call (callI e.call FU) 1 ⟨e,s⟩
 have hlen : (stepX (callI e.call FU) 1 ⟨e,s⟩).e.got.length=e.got.length+1:=by rw [h7,List.length_append]; rfl
 have hE : Er g' (stepX (callI e.call FU) 1 ⟨e,s⟩).e v v' :=⟨by rw [hc]; exact h.ok.ge h2,by rw [hc]; exact h.mask,by rw [hc]; exact h.key,h5,by rw [hc]; exact h6,hok.made,by rw [hlen]; exact hn⟩
 have hu:=hE.units (h4.fitG hok.fit)
 have hb:=stepX_bal (callI e.call FU) 1 ⟨e,s⟩
 have hes : (X.mk e s).s.size=s.size:=rfl
 have hwt : (stepX (callI e.call FU) 1 ⟨e,s⟩).wt≤199 * (e.got.length+1)+120:=by unfold X.wt; omega
 exact ⟨g',v,v',h1,h2,h3,h4,hok.fit,hE,hlen,by omega,hwt⟩
theorem start_ready {c : Call} {s : St} (hf : AllFit s) (hs : s.size≤room) : Ok 60 (repeatX 0 ⟨{ call:=c },s⟩)∧(repeatX 0 ⟨{ call:=c },s⟩).left<FU:=by
 unfold room at hs
 have hz : (repeatX 0 ⟨{ call:=c },s⟩).size=s.size:=rfl
 have hl : (repeatX 0 ⟨{ call:=c },s⟩).left=0:=rfl
 refine ⟨⟨hf,.inr ?_,?_,Nat.zero_le _,Nat.zero_le _,Nat.zero_le _,Nat.zero_le _,(fun r hr=>by cases hr),by show 0≤10; decide⟩,by rw [hl]; unfold FU; omega⟩
 ·rw [hl,hz]; unfold roomMax; omega
 ·rw [hz]; unfold roomMax; omega
theorem Er.start {c : Call} {s : St} (hw : GW g) (ht : Typ g s) (hf : AllFit s) (hc : CallOk g c) (hm : c.mask<18446744073709551616) (hk : c.key.size≤9223372036854775807) (hok : Ok 50 (stepX (callI c FU) 0 ⟨{ call:=c },s⟩)) :
  ∃ g' u u',(progT c FU).head s=((stepX (callI c FU) 0 ⟨{ call:=c },s⟩).s,u)∧Ge g g'∧GW g'∧Typ g' (stepX (callI c FU) 0 ⟨{ call:=c },s⟩).s∧AllFit (stepX (callI c FU) 0 ⟨{ call:=c },s⟩).s∧Er g' (stepX (callI c FU) 0 ⟨{ call:=c },s⟩).e u u' ∧
   (stepX (callI c FU) 0 ⟨{ call:=c },s⟩).e.got=[]∧(stepX (callI c FU) 0 ⟨{ call:=c },s⟩).s.size≤s.size+120∧(stepX (callI c FU) 0 ⟨{ call:=c },s⟩).wt≤120∧(stepX (callI c FU) 0 ⟨{ call:=c },s⟩).e.call=c:=by
 obtain ⟨g',u,u',h1,h2,h3,h4,h5,h6,h7⟩:=Rest.start (sm_call (n:=FU) hw hc) hw (x :=⟨{ call:=c },s⟩) ht rfl rfl rfl rfl rfl
 have hcc:=stepX_call (callI c FU) 0 ⟨{ call:=c },s⟩
 have hE : Er g' (stepX (callI c FU) 0 ⟨{ call:=c },s⟩).e u u' :=⟨by rw [hcc]; exact hc.ge h2,by rw [hcc]; exact hm,by rw [hcc]; exact hk,h5,by rw [hcc]; exact h6,hok.made,by rw [h7]; exact Nat.zero_le _⟩
 have hu:=hE.units (h4.fitG hok.fit)
 have hb:=stepX_bal (callI c FU) 0 ⟨{ call:=c },s⟩
 rw [h7] at hu
 have hwt : (stepX (callI c FU) 0 ⟨{ call:=c },s⟩).wt≤120:=by unfold X.wt; rw [h7]; simp at hu ⊢; omega
 refine ⟨g',u,u',h1,h2,h3,h4,hok.fit,hE,h7,?_,hwt,hcc⟩
 have : (X.mk { call:=c } s).wt=0:=rfl
 rw [this] at hb
 show _≤(X.mk { call:=c } s).s.size+120
 omega
end Go.Ct
end
