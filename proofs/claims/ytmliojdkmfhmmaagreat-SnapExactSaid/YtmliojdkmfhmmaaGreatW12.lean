/- Parts of a proof: Rk, C2, Ayc, C3. -/
import Derived.Test.YtmliojdkmfhmmaaGreatW11
import Derived.Test.YtmliojdkmfhmmaaGreatW10
import Derived.Test.YtmliojdkmfhmmaaGreatProg
import Derived.Test.YtmliojdkmfhmmaaGreatW03
import Derived.Test.YtmliojdkmfhmmaaGreatW08
set_option linter.unusedVariables false
set_option linter.unusedSimpArgs false
set_option maxRecDepth 100000
set_option maxHeartbeats 4000000
section
namespace Go.Ct
def out {α : Type} (y : X) (v : α) : X × Option α:=(y,if y.e.stopped=true then none else some v)
theorem out_some {α : Type} {y : X} {v : α} (h : y.e.stopped=false) : out y v=(y,some v):=by unfold out; rw [if_neg (by rw [h]; decide)]
theorem out_none {α : Type} {y : X} {v : α} (h : y.e.stopped=true) : out y v=(y,none):=by unfold out; rw [if_pos h]
theorem rS {α : Type} {t : I α} {y : X} {v : α} (h : y.e.stopped=true) : runI t y=out y v:=by rw [runI_stopped h,out_none h]
theorem rR {α : Type} {y : X} {v : α} : runI (.ret v) y=out y v:=by unfold runI out; split <;> rfl
theorem and_out {α β : Type} {r : X × Option α} {f : α→X→X × Option β} {y : X} {v : α} {o : X × Option β} (q : r=out y v) (hf : y.e.stopped=true→f v y=(y,none)) (h : f v y=o) : andR r f=o:=by
 rw [q]
 cases hs : y.e.stopped with
 | true=>rw [out_none hs,← h,hf hs]; rfl
 | false=>rw [out_some hs]; exact h
theorem rL {α : Type} {c : Int} {k : Int→I α} {x y : X} {v : Int} {o : X × Option α} (q : loadR c x=out y v) (h : runI (k v) y=o) : runI (.load c k) x=o:=and_out q (fun hs=>runI_stopped hs) h
theorem rC {α : Type} {c o' n : Int} {k : Bool→I α} {x y : X} {v : Bool} {o : X × Option α} (q : casR c o' n x=out y v) (h : runI (k v) y=o) : runI (.cas c o' n k) x=o:=and_out q (fun hs=>runI_stopped hs) h
theorem rA {α : Type} {n : Node} {i : Int} {k : Int→I α} {x y : X} {v : Int} {o : X × Option α} (q : allocR n i x=out y v) (h : runI (k v) y=o) : runI (.alloc n i k) x=o:=and_out q (fun hs=>runI_stopped hs) h
theorem rE {α : Type} {i : Int} {k : Int→I α} {x y : X} {v : Int} {o : X × Option α} (q : cellR i x=out y v) (h : runI (k v) y=o) : runI (.cell i k) x=o:=and_out q (fun hs=>runI_stopped hs) h
theorem rG {α : Type} {k : Int→I α} {x y : X} {v : Int} {o : X × Option α} (q : genR x=out y v) (h : runI (k v) y=o) : runI (.gen k) x=o:=and_out q (fun hs=>runI_stopped hs) h
theorem rB {α β : Type} {t : I α} {f : α→I β} {x y : X} {v : α} {o : X × Option β} (q : runI t x=out y v) (h : runI (f v) y=o) : runI (t.bind f) x=o:=by
 rw [runI_bind]; exact and_out q (fun hs=>runI_stopped hs) h
theorem rN {α : Type} {r : Int} {k : Node→I α} {x : X} {o : X × Option α} (h : runI (k (x.node r)) x=o) : runI (.node r k) x=o:=h
theorem rT {α : Type} {c : Bool} {a b : I α} {x : X} {o : X × Option α} (hc : c=true) (h : runI a x=o) : runI (bif c then a else b) x=o:=by rw [hc]; exact h
theorem rF {α : Type} {c : Bool} {a b : I α} {x : X} {o : X × Option α} (hc : c=false) (h : runI b x=o) : runI (bif c then a else b) x=o:=by rw [hc]; exact h
def X.left (x : X) : Nat:=x.e.got.length - x.e.a+x.e.free
def X.size (x : X) : Nat:=x.s.size+x.e.got.length+x.e.made.length+x.e.cells.length+x.e.gens.length
def roomMax : Nat:=100000000000
def AllFit (s : St) : Prop:=∀ n ∈ s.added,n.Fit s.added.length
structure Ok (j : Nat) (x : X) : Prop where
 fit : AllFit x.s
 room : x.e.stopped=true∨x.size+1000 * x.left+10 * j≤roomMax
 big : x.size≤roomMax
 a : x.e.a≤x.e.got.length
 m : x.e.m≤x.e.made.length
 c : x.e.c≤x.e.cells.length
 g : x.e.g≤x.e.gens.length
 made : ∀ r ∈ x.e.made,1≤r∧r≤200000000000
 free : x.e.free≤10
theorem Ok.less {j k : Nat} {x : X} (h : Ok j x) (hk : k≤j) : Ok k x:={ h with room:=h.room.imp id fun h=>by omega }
theorem Ok.stop {j k : Nat} {x : X} (h : Ok j x) (hs : x.e.stopped=true) : Ok k x:={ h with room:=.inl hs }
theorem AllFit.node {s : St} (h : AllFit s) (r : Int) : (s.node r).Fit s.added.length:=by
 unfold St.node
 split
 ·exact fit_zero _
 ·split
  ·exact fit_small _ 1 0 0 0 0
  ·by_cases hr : r.toNat - 3<s.added.length
   ·rw [List.getD_eq_getElem?_getD,List.getElem?_eq_getElem hr]; exact h _ (List.getElem_mem hr)
   ·rw [List.getD_eq_getElem?_getD,List.getElem?_eq_none (by omega)]; exact fit_zero _
theorem St.load_size (s : St) (c : Int) : (s.load c).1.size=s.size+1∧(s.load c).1.added=s.added :=⟨by simp only [St.load,St.size]; omega,rfl⟩
theorem St.cas_size (s : St) (c o n : Int) : (s.cas c o n).1.size=s.size+1∧(s.cas c o n).1.added=s.added:=by
 refine ⟨?_,rfl⟩
 simp only [St.cas,St.size]
 split <;> (try rw [List.length_set]) <;> omega
theorem St.alloc_size (s : St) (n : Node) (i : Int) : (s.alloc n i).1.size≤s.size+2∧s.size≤(s.alloc n i).1.size∧(s.alloc n i).1.added.length=s.added.length+1:=by
 simp only [St.alloc,St.newCell,St.size]
 split <;> simp <;> omega
theorem fits_kept' {L : Nat} {n : Node} (h : n.Fit L) (c : Int) (hc : 0≤c) :
  (if n.kind==2 then { n.bare with main:=c } else if n.isMain then { n.bare with prev:=c } else if n.kind==8 then { n.bare with status:=c } else n.bare : Node).Fit L:=by
 obtain ⟨⟨h1,h2,h3,h4,h5,h6,h7⟩,h8⟩:=h
 by_cases k2 : n.kind=2
 ·rw [if_pos (by simp [k2])]
  exact ⟨⟨h1,h2,h3,h4,h5,h6,fun hk=>absurd hk (by show ¬ (n.kind=3∨n.kind=6); omega)⟩,h8⟩
 ·rw [if_neg (by simp [k2])]
  by_cases km : n.isMain=true
  ·rw [if_pos km]
   exact ⟨⟨h1,h2,h3,h4,h5,h6,fun hk=>valid_prev n c hc hk (h7 hk)⟩,h8⟩
  ·rw [if_neg km]
   have hk36 : ¬ (n.kind=3∨n.kind=6):=fun hk=>km (by unfold Node.isMain; rcases hk with hk | hk <;> simp [hk])
   split
   ·exact ⟨⟨h1,h2,h3,h4,h5,h6,fun hk=>absurd hk hk36⟩,h8⟩
   ·exact ⟨⟨h1,h2,h3,h4,h5,h6,fun hk=>absurd hk hk36⟩,h8⟩
theorem AllFit.alloc {s : St} (h : AllFit s) {n : Node} (hn : n.Fit (s.added.length+1)) (i : Int) : AllFit (s.alloc n i).1:=by
 intro m hm
 have hl:=(St.alloc_size s n i).2.2
 rw [hl]
 have hd : (s.alloc n i).1.added=s.added ++ [(if n.kind==2 then { n.bare with main:=(s.cells.length : Int)+1 } else if n.isMain then { n.bare with prev:=(s.cells.length : Int)+1 } else if n.kind==8 then { n.bare with status:=(s.cells.length : Int)+1 } else n.bare : Node)]:=by
  simp only [St.alloc,St.newCell]; split <;> rfl
 rw [hd,List.mem_append,List.mem_singleton] at hm
 rcases hm with hm | rfl
 ·exact (h m hm).mono (by omega)
 ·exact fits_kept' hn _ (by omega)
theorem St.alloc_pos (s : St) (n : Node) (i : Int) : 1≤(s.alloc n i).2:=by simp only [St.alloc]; omega
theorem ok_load {j : Nat} {c : Int} {x y : X} {v : Int} (h : Ok j x) (q : loadR c x=out y v) : Ok (j+99) y∧y.s.added=x.s.added∧(y.e.stopped=false→y.left<x.left∧x.e.stopped=false)∧(x.e.stopped=true→y=x):=by
 have q1:=congrArg Prod.fst q
 simp only [out] at q1
 subst q1
 obtain ⟨h1,h2,h3,h4,h5,h6,h7,h8,h9⟩:=h
 unfold loadR
 split
 ·rename_i hs
  exact ⟨⟨h1,.inl hs,h3,h4,h5,h6,h7,h8,h9⟩,rfl,(fun h=>by first | (rw [hs] at h; cases h) | cases h),fun _=>rfl⟩
 ·rename_i hs
  have hr:=h2.resolve_left hs
  unfold X.size X.left at hr
  split
  ·rename_i ha
   refine ⟨⟨h1,.inr ?_,h3,ha,h5,h6,h7,h8,h9⟩,rfl,fun _=>⟨?_,by simpa using hs⟩,fun h=>absurd h hs⟩
   ·unfold X.size X.left oldX; dsimp only; omega
   ·unfold X.left oldX; dsimp only; omega
  ·split
   ·exact ⟨⟨h1,.inl rfl,h3,h4,h5,h6,h7,h8,h9⟩,rfl,(fun h=>by cases h),fun h=>absurd h hs⟩
   ·obtain ⟨e1,e2⟩:=St.load_size x.s c
    refine ⟨⟨by unfold newX AllFit; dsimp only; rw [e2]; exact h1,.inr ?_,?_,?_,h5,h6,h7,h8,?_⟩,e2,fun _=>⟨?_,by simpa using hs⟩,fun h=>absurd h hs⟩
    ·unfold X.size X.left newX; dsimp only; rw [e1,List.length_append,List.length_singleton]; omega
    ·unfold X.size newX; dsimp only; rw [e1,List.length_append,List.length_singleton]; unfold roomMax at *; omega
    ·unfold newX; dsimp only; rw [List.length_append,List.length_singleton]; omega
    ·unfold newX; dsimp only; omega
    ·unfold X.left newX; dsimp only; rw [List.length_append,List.length_singleton]; omega
theorem ok_cas {j : Nat} {c o n : Int} {x y : X} {v : Bool} (h : Ok j x) (q : casR c o n x=out y v) : Ok (j+99) y∧y.s.added=x.s.added∧(y.e.stopped=false→y.left<x.left∧x.e.stopped=false)∧(x.e.stopped=true→y=x):=by
 have q1:=congrArg Prod.fst q
 simp only [out] at q1
 subst q1
 obtain ⟨h1,h2,h3,h4,h5,h6,h7,h8,h9⟩:=h
 unfold casR
 split
 ·rename_i hs
  exact ⟨⟨h1,.inl hs,h3,h4,h5,h6,h7,h8,h9⟩,rfl,(fun h=>by first | (rw [hs] at h; cases h) | cases h),fun _=>rfl⟩
 ·rename_i hs
  have hr:=h2.resolve_left hs
  unfold X.size X.left at hr
  split
  ·rename_i ha
   refine ⟨⟨h1,.inr ?_,h3,ha,h5,h6,h7,h8,h9⟩,rfl,fun _=>⟨?_,by simpa using hs⟩,fun h=>absurd h hs⟩
   ·unfold X.size X.left oldX; dsimp only; omega
   ·unfold X.left oldX; dsimp only; omega
  ·split
   ·exact ⟨⟨h1,.inl rfl,h3,h4,h5,h6,h7,h8,h9⟩,rfl,(fun h=>by cases h),fun h=>absurd h hs⟩
   ·obtain ⟨e1,e2⟩:=St.cas_size x.s c o n
    refine ⟨⟨by unfold newX AllFit; dsimp only; rw [e2]; exact h1,.inr ?_,?_,?_,h5,h6,h7,h8,?_⟩,e2,fun _=>⟨?_,by simpa using hs⟩,fun h=>absurd h hs⟩
    ·unfold X.size X.left newX; dsimp only; rw [e1,List.length_append,List.length_singleton]; omega
    ·unfold X.size newX; dsimp only; rw [e1,List.length_append,List.length_singleton]; unfold roomMax at *; omega
    ·unfold newX; dsimp only; rw [List.length_append,List.length_singleton]; omega
    ·unfold newX; dsimp only; omega
    ·unfold X.left newX; dsimp only; rw [List.length_append,List.length_singleton]; omega
theorem ok_alloc {j : Nat} {n : Node} {i : Int} {x y : X} {v : Int} (h : Ok (j+1) x) (hn : n.Fit (x.s.added.length+1)) (q : allocR n i x=out y v) : Ok j y∧x.s.added.length≤y.s.added.length∧(y.e.stopped=false→1≤v)∧y.e.stopped=x.e.stopped∧y.left=x.left∧(x.e.stopped=true→y=x):=by
 have q1:=congrArg Prod.fst q
 have q2:=congrArg Prod.snd q
 simp only [out] at q1 q2
 rw [q1.symm] at q2
 subst q1
 obtain ⟨h1,h2,h3,h4,h5,h6,h7,h8,h9⟩:=h
 unfold allocR at q2 ⊢
 split
 ·rename_i hs
  exact ⟨⟨h1,.inl hs,h3,h4,h5,h6,h7,h8,h9⟩,Nat.le_refl _,(fun h=>by first | (rw [hs] at h; cases h) | cases h),rfl,rfl,fun _=>rfl⟩
 ·rename_i hs
  rw [if_neg hs] at q2
  have hr:=h2.resolve_left hs
  unfold X.size X.left at hr
  split
  ·rename_i hm
   rw [if_pos hm] at q2
   obtain ⟨e1,e2,e3⟩:=St.alloc_size x.s n i
   have hs' : x.e.stopped=false:=by simpa using hs
   refine ⟨⟨h1.alloc hn i,.inr ?_,?_,h4,?_,h6,h7,?_,h9⟩,by dsimp only; omega,fun _=>?_,rfl,rfl,fun h=>absurd h hs⟩
   ·unfold X.size X.left; dsimp only; rw [List.length_append,List.length_singleton]; omega
   ·unfold X.size; dsimp only; rw [List.length_append,List.length_singleton]; unfold roomMax at *; omega
   ·dsimp only; rw [List.length_append,List.length_singleton]; omega
   ·intro r hm'
    dsimp only at hm'
    rw [List.mem_append,List.mem_singleton] at hm'
    rcases hm' with hm' | rfl
    ·exact h8 r hm'
    ·refine ⟨St.alloc_pos _ _ _,?_⟩
     show (x.s.added.length : Int)+3≤_
     unfold St.size roomMax at hr; omega
   ·dsimp only at q2
    rw [if_neg (by rw [hs']; decide)] at q2
    injection q2 with q2
    rw [← q2]; exact St.alloc_pos _ _ _
  ·rename_i hm
   rw [if_neg hm] at q2
   have hs' : x.e.stopped=false:=by simpa using hs
   refine ⟨⟨h1,.inr ?_,h3,h4,?_,h6,h7,h8,h9⟩,Nat.le_refl _,fun _=>?_,rfl,rfl,fun h=>absurd h hs⟩
   ·unfold X.size X.left; dsimp only; omega
   ·dsimp only; omega
   ·dsimp only at q2
    rw [if_neg (by rw [hs']; decide)] at q2
    injection q2 with q2
    rw [← q2]
    refine (h8 _ ?_).1
    rw [List.getD_eq_getElem?_getD,List.getElem?_eq_getElem (by omega)]
    exact List.getElem_mem _
theorem ok_cell {j : Nat} {i : Int} {x y : X} {v : Int} (h : Ok (j+1) x) (q : cellR i x=out y v) : Ok j y∧y.s.added=x.s.added∧y.e.stopped=x.e.stopped∧y.left=x.left∧(x.e.stopped=true→y=x):=by
 have q1:=congrArg Prod.fst q
 simp only [out] at q1
 subst q1
 obtain ⟨h1,h2,h3,h4,h5,h6,h7,h8,h9⟩:=h
 unfold cellR
 split
 ·rename_i hs
  exact ⟨⟨h1,.inl hs,h3,h4,h5,h6,h7,h8,h9⟩,rfl,rfl,rfl,fun _=>rfl⟩
 ·rename_i hs
  have hr:=h2.resolve_left hs
  unfold X.size X.left at hr
  split
  ·refine ⟨⟨h1,.inr ?_,?_,h4,h5,?_,h7,h8,h9⟩,rfl,rfl,rfl,fun h=>absurd h hs⟩
   ·unfold X.size X.left St.newCell St.size at *; dsimp only; rw [List.length_append,List.length_append,List.length_singleton,List.length_singleton]; omega
   ·unfold X.size St.newCell St.size at *; dsimp only; rw [List.length_append,List.length_append,List.length_singleton,List.length_singleton]; unfold roomMax at *; omega
   ·dsimp only; rw [List.length_append,List.length_singleton]; omega
  ·refine ⟨⟨h1,.inr ?_,h3,h4,h5,?_,h7,h8,h9⟩,rfl,rfl,rfl,fun h=>absurd h hs⟩
   ·unfold X.size X.left; dsimp only; omega
   ·dsimp only; omega
theorem ok_gen {j : Nat} {x y : X} {v : Int} (h : Ok (j+1) x) (q : genR x=out y v) : Ok j y∧y.s.added=x.s.added∧y.e.stopped=x.e.stopped∧y.left=x.left∧(x.e.stopped=true→y=x):=by
 have q1:=congrArg Prod.fst q
 simp only [out] at q1
 subst q1
 obtain ⟨h1,h2,h3,h4,h5,h6,h7,h8,h9⟩:=h
 unfold genR
 split
 ·rename_i hs
  exact ⟨⟨h1,.inl hs,h3,h4,h5,h6,h7,h8,h9⟩,rfl,rfl,rfl,fun _=>rfl⟩
 ·rename_i hs
  have hr:=h2.resolve_left hs
  unfold X.size X.left at hr
  split
  ·refine ⟨⟨h1,.inr ?_,?_,h4,h5,h6,?_,h8,h9⟩,rfl,rfl,rfl,fun h=>absurd h hs⟩
   ·unfold X.size X.left St.newGen St.size at *; dsimp only; rw [List.length_append,List.length_singleton]; omega
   ·unfold X.size St.newGen St.size at *; dsimp only; rw [List.length_append,List.length_singleton]; unfold roomMax at *; omega
   ·dsimp only; rw [List.length_append,List.length_singleton]; omega
  ·refine ⟨⟨h1,.inr ?_,h3,h4,h5,h6,?_,h8,h9⟩,rfl,rfl,rfl,fun h=>absurd h hs⟩
   ·unfold X.size X.left; dsimp only; omega
   ·dsimp only; omega
def Cst {α : Type} : I α→Nat→Nat→(Nat→Nat→α→Prop)→Prop
 | .ret a,j,L,Q=>Q j L a
 | .load c k,j,L,Q=>∀ v,Cst (k v) (j+99) L Q
 | .cas c o n k,j,L,Q=>∀ v,Cst (k v) (j+99) L Q
 | .alloc n i k,j,L,Q=>1≤j∧n.Fit (L+1)∧∀ r,1≤r→Cst (k r) (j - 1) L Q
 | .cell i k,j,L,Q=>1≤j∧∀ r,Cst (k r) (j - 1) L Q
 | .gen k,j,L,Q=>1≤j∧∀ r,Cst (k r) (j - 1) L Q
 | .node r k,j,L,Q=>∀ L' n,L≤L'→n.Fit L'→Cst (k n) j L' Q
theorem Cst.mono {α : Type} : ∀ {t : I α} {j j' L L' : Nat} {Q Q' : Nat→Nat→α→Prop},Cst t j L Q→j≤j'→L≤L'→(∀ i i' M M' a,i≤i'→M≤M'→Q i M a→Q' i' M' a)→Cst t j' L' Q'
 | .ret a,j,j',L,L',Q,Q',h,hj,hL,hQ=>hQ _ _ _ _ _ hj hL h
 | .load c k,j,j',L,L',Q,Q',h,hj,hL,hQ=>fun v=>Cst.mono (h v) (by omega) hL hQ
 | .cas c o n k,j,j',L,L',Q,Q',h,hj,hL,hQ=>fun v=>Cst.mono (h v) (by omega) hL hQ
 | .alloc n i k,j,j',L,L',Q,Q',h,hj,hL,hQ=>⟨Nat.le_trans h.1 hj,h.2.1.mono (by omega),fun r hr=>Cst.mono (h.2.2 r hr) (by omega) hL hQ⟩
 | .cell i k,j,j',L,L',Q,Q',h,hj,hL,hQ=>⟨Nat.le_trans h.1 hj,fun r=>Cst.mono (h.2 r) (by omega) hL hQ⟩
 | .gen k,j,j',L,L',Q,Q',h,hj,hL,hQ=>⟨Nat.le_trans h.1 hj,fun r=>Cst.mono (h.2 r) (by omega) hL hQ⟩
 | .node r k,j,j',L,L',Q,Q',h,hj,hL,hQ=>fun M n hM hn=>Cst.mono (h M n (Nat.le_trans hL hM) hn) hj (Nat.le_refl _) hQ
theorem Cst.bind {α β : Type} : ∀ {t : I α} {f : α→I β} {j L : Nat} {Q : Nat→Nat→β→Prop},Cst t j L (fun j L a=>Cst (f a) j L Q)→Cst (t.bind f) j L Q
 | .ret a,f,j,L,Q,h=>h
 | .load c k,f,j,L,Q,h=>fun v=>Cst.bind (h v)
 | .cas c o n k,f,j,L,Q,h=>fun v=>Cst.bind (h v)
 | .alloc n i k,f,j,L,Q,h=>⟨h.1,h.2.1,fun r hr=>Cst.bind (h.2.2 r hr)⟩
 | .cell i k,f,j,L,Q,h=>⟨h.1,fun r=>Cst.bind (h.2 r)⟩
 | .gen k,f,j,L,Q,h=>⟨h.1,fun r=>Cst.bind (h.2 r)⟩
 | .node r k,f,j,L,Q,h=>fun M n hM hn=>Cst.bind (h M n hM hn)
theorem Cst.bif {α : Type} {c : Bool} {a b : I α} {j L : Nat} {Q : Nat→Nat→α→Prop} (ha : c=true→Cst a j L Q) (hb : c=false→Cst b j L Q) : Cst (bif c then a else b) j L Q:=by
 cases c with
 | true=>exact ha rfl
 | false=>exact hb rfl
theorem loadR_left {c : Int} {x z : X} {o : Option Int} (h : loadR c x=(z,o)) : z.left≤x.left:=by
 unfold loadR at h
 split at h
 ·cases h; exact Nat.le_refl _
 ·split at h
  ·cases h; unfold X.left oldX; dsimp only; omega
  ·split at h
   ·cases h; exact Nat.le_refl _
   ·cases h; unfold X.left newX; dsimp only; rw [List.length_append,List.length_singleton]; omega
theorem casR_left {c a n : Int} {x z : X} {o : Option Bool} (h : casR c a n x=(z,o)) : z.left≤x.left:=by
 unfold casR at h
 split at h
 ·cases h; exact Nat.le_refl _
 ·split at h
  ·cases h; unfold X.left oldX; dsimp only; omega
  ·split at h
   ·cases h; exact Nat.le_refl _
   ·cases h; unfold X.left newX; dsimp only; rw [List.length_append,List.length_singleton]; omega
theorem Cst.ok {α : Type} : ∀ {t : I α} {j L : Nat} {Q : Nat→Nat→α→Prop} {x y : X} {v : α},Cst t j L Q→Ok j x→L≤x.s.added.length→runI t x=out y v→Ok 0 y∧(y.e.stopped=false→∃ j' L',Q j' L' v∧Ok j' y∧L'≤y.s.added.length)∧x.s.added.length≤y.s.added.length∧(x.e.stopped=true→y=x)∧y.left≤x.left:=by
 intro t
 induction t with
 | ret a =>
  intro j L Q x y v h hx hL q
  rw [rR (v:=a)] at q
  have q1 : x=y:=congrArg Prod.fst q
  subst q1
  refine ⟨hx.less (Nat.zero_le _),fun hs=>?_,Nat.le_refl _,fun _=>rfl,Nat.le_refl _⟩
  have q2:=congrArg Prod.snd q
  simp only [out,hs] at q2
  simp at q2
  subst q2
  exact ⟨j,L,h,hx,hL⟩
 | load c k ih =>
  intro j L Q x y v h hx hL q
  cases hs : x.e.stopped with
  | true =>
   rw [runI_stopped hs] at q
   have q1 : x=y:=congrArg Prod.fst q
   subst q1
   exact ⟨hx.less (Nat.zero_le _),(fun h=>by first | (rw [hs] at h; cases h) | cases h),Nat.le_refl _,fun _=>rfl,Nat.le_refl _⟩
  | false =>
   rw [run_load] at q
   obtain ⟨z,o,hz⟩ : ∃ z o,loadR c x=(z,o) :=⟨_,_,rfl⟩
   cases o with
   | none =>
    have hst:=loadR_st hz
    have hz' : loadR c x=out z 0:=by rw [hz,out_none hst]
    rw [hz] at q
    have q1 : z=y:=congrArg Prod.fst q
    subst q1
    obtain ⟨k1,k2,_,k4⟩:=ok_load hx hz'
    refine ⟨k1.less (Nat.zero_le _),(fun h=>by rw [hst] at h; cases h),by rw [k2]; exact Nat.le_refl _,(fun h=>by first | (rw [hs] at h; cases h) | cases h),loadR_left hz⟩
   | some u =>
    have hns:=loadR_ns hz
    have hz' : loadR c x=out z u:=by rw [hz,out_some hns]
    rw [hz] at q
    obtain ⟨k1,k2,k3,_⟩:=ok_load hx hz'
    obtain ⟨g1,g2,g3,g4,g5⟩:=ih u (h u) k1 (by rw [k2]; exact hL) q
    exact ⟨g1,g2,by rw [k2] at g3; exact g3,(fun h=>by first | (rw [hs] at h; cases h) | cases h),by have:=(k3 hns).1; omega⟩
 | cas c o n k ih =>
  intro j L Q x y v h hx hL q
  cases hs : x.e.stopped with
  | true =>
   rw [runI_stopped hs] at q
   have q1 : x=y:=congrArg Prod.fst q
   subst q1
   exact ⟨hx.less (Nat.zero_le _),(fun h=>by first | (rw [hs] at h; cases h) | cases h),Nat.le_refl _,fun _=>rfl,Nat.le_refl _⟩
  | false =>
   rw [run_cas] at q
   obtain ⟨z,w,hz⟩ : ∃ z w,casR c o n x=(z,w) :=⟨_,_,rfl⟩
   cases w with
   | none =>
    have hst:=casR_st hz
    have hz' : casR c o n x=out z false:=by rw [hz,out_none hst]
    rw [hz] at q
    have q1 : z=y:=congrArg Prod.fst q
    subst q1
    obtain ⟨k1,k2,_,k4⟩:=ok_cas hx hz'
    refine ⟨k1.less (Nat.zero_le _),(fun h=>by rw [hst] at h; cases h),by rw [k2]; exact Nat.le_refl _,(fun h=>by first | (rw [hs] at h; cases h) | cases h),casR_left hz⟩
   | some u =>
    have hns:=casR_ns hz
    have hz' : casR c o n x=out z u:=by rw [hz,out_some hns]
    rw [hz] at q
    obtain ⟨k1,k2,k3,_⟩:=ok_cas hx hz'
    obtain ⟨g1,g2,g3,g4,g5⟩:=ih u (h u) k1 (by rw [k2]; exact hL) q
    exact ⟨g1,g2,by rw [k2] at g3; exact g3,(fun h=>by first | (rw [hs] at h; cases h) | cases h),by have:=(k3 hns).1; omega⟩
 | alloc n i k ih =>
  intro j L Q x y v h hx hL q
  cases hs : x.e.stopped with
  | true =>
   rw [runI_stopped hs] at q
   have q1 : x=y:=congrArg Prod.fst q
   subst q1
   exact ⟨hx.less (Nat.zero_le _),(fun h=>by first | (rw [hs] at h; cases h) | cases h),Nat.le_refl _,fun _=>rfl,Nat.le_refl _⟩
  | false =>
   rw [run_alloc] at q
   obtain ⟨z,o,hz⟩ : ∃ z o,allocR n i x=(z,o) :=⟨_,_,rfl⟩
   cases o with
   | none=>obtain ⟨rfl,hst⟩:=allocR_st hz; rw [hs] at hst; cases hst
   | some u =>
    have hns:=allocR_ns hz
    have hz' : allocR n i x=out z u:=by rw [hz,out_some hns]
    rw [hz] at q
    obtain ⟨k1,k2,k3,k4,k5,_⟩:=ok_alloc (j:=j - 1) (hx.less (by have:=h.1; omega)) (h.2.1.mono (by omega)) hz'
    obtain ⟨g1,g2,g3,g4,g5⟩:=ih u (h.2.2 u (k3 hns)) k1 (by omega) q
    exact ⟨g1,g2,by omega,(fun h=>by first | (rw [hs] at h; cases h) | cases h),by omega⟩
 | cell i k ih =>
  intro j L Q x y v h hx hL q
  cases hs : x.e.stopped with
  | true =>
   rw [runI_stopped hs] at q
   have q1 : x=y:=congrArg Prod.fst q
   subst q1
   exact ⟨hx.less (Nat.zero_le _),(fun h=>by first | (rw [hs] at h; cases h) | cases h),Nat.le_refl _,fun _=>rfl,Nat.le_refl _⟩
  | false =>
   rw [run_cell] at q
   obtain ⟨z,o,hz⟩ : ∃ z o,cellR i x=(z,o) :=⟨_,_,rfl⟩
   cases o with
   | none=>obtain ⟨rfl,hst⟩:=cellR_st hz; rw [hs] at hst; cases hst
   | some u =>
    have hns:=cellR_ns hz
    have hz' : cellR i x=out z u:=by rw [hz,out_some hns]
    rw [hz] at q
    obtain ⟨k1,k2,k3,k4,_⟩:=ok_cell (j:=j - 1) (hx.less (by have:=h.1; omega)) hz'
    obtain ⟨g1,g2,g3,g4,g5⟩:=ih u (h.2 u) k1 (by rw [k2]; exact hL) q
    exact ⟨g1,g2,by rw [k2] at g3; exact g3,(fun h=>by first | (rw [hs] at h; cases h) | cases h),by omega⟩
 | gen k ih =>
  intro j L Q x y v h hx hL q
  cases hs : x.e.stopped with
  | true =>
   rw [runI_stopped hs] at q
   have q1 : x=y:=congrArg Prod.fst q
   subst q1
   exact ⟨hx.less (Nat.zero_le _),(fun h=>by first | (rw [hs] at h; cases h) | cases h),Nat.le_refl _,fun _=>rfl,Nat.le_refl _⟩
  | false =>
   rw [run_gen] at q
   obtain ⟨z,o,hz⟩ : ∃ z o,genR x=(z,o) :=⟨_,_,rfl⟩
   cases o with
   | none=>obtain ⟨rfl,hst⟩:=genR_st hz; rw [hs] at hst; cases hst
   | some u =>
    have hns:=genR_ns hz
    have hz' : genR x=out z u:=by rw [hz,out_some hns]
    rw [hz] at q
    obtain ⟨k1,k2,k3,k4,_⟩:=ok_gen (j:=j - 1) (hx.less (by have:=h.1; omega)) hz'
    obtain ⟨g1,g2,g3,g4,g5⟩:=ih u (h.2 u) k1 (by rw [k2]; exact hL) q
    exact ⟨g1,g2,by rw [k2] at g3; exact g3,(fun h=>by first | (rw [hs] at h; cases h) | cases h),by omega⟩
 | node r k ih =>
  intro j L Q x y v h hx hL q
  exact ih (x.node r) (h x.s.added.length _ hL (hx.fit.node r)) hx (Nat.le_refl _) q
def GoodB {α : Type} (a b : Nat) (t : I α) (Q : α→Prop:=fun _=>True) : Prop:=∀ j L,a≤j→Cst t j L fun j' L' v=>b≤j'∧L≤L'∧Q v
abbrev Good {α : Type} (a : Nat) (t : I α) (Q : α→Prop:=fun _=>True) : Prop:=GoodB a 60 t Q
theorem GoodB.ok {α : Type} {a b : Nat} {t : I α} {Q : α→Prop} {x y : X} {v : α} (h : GoodB a b t Q) (hx : Ok a x) (q : runI t x=out y v) : Ok b y∧(y.e.stopped=false→Q v)∧y.left≤x.left∧(x.e.stopped=true→y=x):=by
 obtain ⟨h1,h2,h3,h4,h5⟩:=(h a _ (Nat.le_refl _)).ok hx (Nat.le_refl _) q
 refine ⟨?_,fun hs=>?_,h5,h4⟩
 ·cases hs : y.e.stopped with
  | true=>exact h1.stop hs
  | false=>obtain ⟨j',L',hq,hk,_⟩:=h2 hs; exact hk.less hq.1
 ·obtain ⟨j',L',hq,_⟩:=h2 hs; exact hq.2.2
end Go.Ct
end
section
namespace Go.Ct
variable {β : Type}
def backT (i m p : Int) (k : Int→I β) : I β:=.node p fun b=>.node i fun a=>.cas a.main m b.old fun _=>k b.old
def decideT (prev p : Int) (commit : Bool) (k : Bool→I β) : I β:=bif commit then .cas prev p 0 k else .alloc { kind:=7,old:=p } 0 fun f=>.cas prev p f k
def wonT (t : Trie) (v s : Int) (k : Int→I β) : I β:=.node v fun d=>bif s==1 then .cas t.root v d.new fun _=>k d.new else .cas t.root v d.old fun _=>k d.old
def rootT (t : Trie) (k : Int→I β) : I β :=
 .load t.root fun v=>.node v fun d=>bif d.kind==2 then k v else
  .load d.status fun s=>bif s != 0 then wonT t v s k else .cas d.status 0 2 fun _=>.load d.status fun s=>wonT t v s k
def againT (prev i m : Int) (k : Int→I β) (_ : Bool) : I β:=.load prev fun p=>bif p==0 then k m else backT i m p k
def settleT (t : Trie) (i m : Int) (k : Int→I β) : I β :=
 .node m fun n=>.load n.prev fun p=>bif p==0 then k m else .node p fun b=>bif !b.isMain then backT i m p k else
  bif t.readOnly then decideT n.prev p false (againT n.prev i m k) else rootT t fun r=>.node r fun a=>.node i fun b=>decideT n.prev p (a.gen==b.gen) (againT n.prev i m k)
def readT (t : Trie) (i : Int) (k : Int→I β) : I β:=.node i fun n=>.load n.main fun m=>settleT t i m k
def swapT (t : Trie) (i old n : Int) (k : Bool→I β) : I β:=.node i fun a=>.cas a.main old n fun ok=>bif !ok then k false else settleT t i n fun m=>k (m==n)
def decT (t : Trie) (d : Node) (k : I β) : I β:=readT t d.old fun m=>bif m==d.expected then .cas d.status 0 1 fun _=>k else .cas d.status 0 2 fun _=>k
def helpT (t : Trie) (k : Int→I β) : I β :=
 .load t.root fun v=>.node v fun d=>bif d.kind==2 then k v else
  .load d.status fun s=>bif s != 0 then wonT t v s k else decT t d (.load d.status fun s=>wonT t v s k)
def replaceT (t : Trie) (old expected new : Int) (k : Bool→I β) : I β :=
 .alloc { kind:=8,old:=old,expected:=expected,new:=new } 0 fun v=>.node v fun d=>.cas t.root old v fun ok=>bif !ok then k false else
  decT t d (.load d.status fun s=>wonT t v s fun _=>k (s==1))
def clearT (t : Trie) : Nat→I Result
 | 0=>.ret {}
 | n+1=>helpT t fun r=>readT t r fun m=>.alloc { kind:=3 } 0 fun c=>.gen fun g=>.alloc { kind:=2,gen:=g } c fun i=>replaceT t r m i fun ok=>bif !ok then clearT t n else .ret { found:=true }
def partedT (t : Trie) (k : Int→Int→I Result) : Nat→I Result
 | 0=>.ret {}
 | n+1=>helpT t fun r=>readT t r fun m=>.gen fun g=>.alloc { kind:=2,gen:=g } m fun i=>replaceT t r m i fun ok=>bif !ok then partedT t k n else k r m
def copiedT (m : Int) : I Result:=.gen fun g=>.alloc { kind:=2,gen:=g } m fun i=>.cell i fun c=>.ret { found:=true,trie:={ root:=c } }
def frozenT (r : Int) : I Result:=.cell r fun c=>.ret { found:=true,trie:={ root:=c,readOnly:=true } }
def snapshotT (t : Trie) (n : Nat) : I Result:=bif t.readOnly then .load t.root fun r=>readT t r copiedT else partedT t (fun _ m=>copiedT m) n
def freezeT (t : Trie) (n : Nat) : I Result:=bif t.readOnly then .load t.root frozenT else partedT t (fun r _=>frozenT r) n
def renewT (t : Trie) (i c index : Int) (k : Int→I β) : I β :=
 .node c fun n=>bif !(blookup n index).2 then k 0 else readT t (blookup n index).1 fun m=>.node i fun a=>.alloc { kind:=2,gen:=a.gen } m fun j =>
  .node c fun n=>bif !(pupdated n index j).2 then k 0 else .alloc (pupdated n index j).1 c fun r=>swapT t i c r fun ok=>bif !ok then k 0 else k j
def cleanT (t : Trie) (parent child : Int) (h : Nat) (level : Int) (k : Bool→I β) : I β :=
 readT t parent fun m=>.node m fun n=>bif !(blookup n (slice h level)).2 then k false else bif (blookup n (slice h level)).1 != child then k false else
  readT t child fun q=>.node q fun b=>bif !(untombed b).2 then k false else
   .node m fun n=>.alloc (untombed b).1 0 fun s=>bif !(pupdated n (slice h level) s).2 then k false else .alloc (contracted (pupdated n (slice h level) s).1 level (untombed b).1) m fun r=>swapT t parent m r k
end Go.Ct
end
section
namespace Go.Proofs.YtmliojdkmfhmmaaGreat
open Go.E
theorem en_64 : Ents Tryz.prog 64:=enG Tryz.func64 rfl rfl
theorem en_355 : Ents Tryz.prog 355:=enG Tryz.func355 rfl rfl
theorem en_358 : Ents Tryz.prog 358:=enG Tryz.func358 rfl rfl
theorem en_359 : Ents Tryz.prog 359:=enG Tryz.func359 rfl rfl
end Go.Proofs.YtmliojdkmfhmmaaGreat
end
section
namespace Go.Ct
structure Rm (j : Nat) (s : St) : Prop where
 fit : AllFit s
 room : s.size+10 * j≤roomMax
theorem Rm.less {j k : Nat} {s : St} (h : Rm j s) (hk : k≤j) : Rm k s :=⟨h.fit,by have:=h.room; omega⟩
theorem Rm.big {j : Nat} {s : St} (h : Rm j s) : s.size≤100000000000:=by have:=h.room; unfold roomMax at this; omega
theorem Rm.node {j : Nat} {s : St} (h : Rm j s) (r : Int) : (s.node r).Fit s.added.length:=h.fit.node r
theorem Rm.alloc {j : Nat} {s : St} (h : Rm (j+1) s) {n : Node} (hn : n.Fit (s.added.length+1)) (i : Int) : Rm j (s.alloc n i).1 :=⟨h.fit.alloc hn i,by have:=(St.alloc_size s n i).1; have:=h.room; omega⟩
theorem Rm.cell {j : Nat} {s : St} (h : Rm (j+1) s) (i : Int) : Rm j (s.newCell i).1 :=⟨h.fit,by have:=h.room; unfold St.size at this; unfold St.newCell St.size; simp; omega⟩
theorem Rm.gen {j : Nat} {s : St} (h : Rm (j+1) s) : Rm j s.newGen.1 :=⟨h.fit,by have:=h.room; unfold St.size at this; unfold St.newGen St.size; simp; omega⟩
end Go.Ct
namespace Go.Proofs.YtmliojdkmfhmmaaGreat
open Go.RowKit Go.E
variable {B w : World} {L : List As}
def arL (b : Nat) (s : Ct.St) (q : Mq) : List As :=
 [bl b [.slice q.pn q.zs.length q.cn,.slice q.pc s.cells.length q.cc,.int .i64 ((s.gen : Nat) : Int),.int .i64 ((s.acc : Nat) : Int)] 128,
  osl 77 14 (.slice q.pn q.zs.length q.cn) q.zs.length (q.zs.flatMap nodeP),osl 36 1 (.slice q.pc s.cells.length q.cc) s.cells.length (s.cells.map (Value.int .i64)),nodesF q.zs]
def arA (b : Nat) (s : Ct.St) : As:=ex fun q : Mq=>se (pu (q.zs.map Prod.fst=s.added)::arL b s q)
def MI (t : TypeId) (x : Value) (name : String) (f : FuncId) (r : Value) (w : World) : Prop:=(method 411 t x name).run Tryz.prog w=.ok (f,r) w
theorem inv_of {t : TypeId} {x r : Value} {name : String} {f : FuncId} (en : Ents Tryz.prog f) (h : MI t x name f r w) : Inv Tryz.prog (.iface t x) name w f r:=fun args=>by
 unfold MI at h
 simp only [callMethod,Sem.run_bind,run_program,Result.andThen_ok]
 rw [show Tryz.prog.types.size+Made.depth = 411 from by kernel_rfl,h]
 exact en _ _
def pab (ab : Nat) : Value:=.pointer (some ⟨ab,0,none⟩)
structure Meth (t : TypeId) (x : Value) (ab : Nat) (w : World) : Prop where
 node : MI t x "Node" 64 (pab ab) w
 alloc : MI t x "Alloc" 355 (pab ab) w
 cell : MI t x "NewCell" 358 (pab ab) w
 gen : MI t x "NewGen" 359 (pab ab) w
 load : MI t x "Load" 357 (pab ab) w
 cas : MI t x "CAS" 356 (pab ab) w
structure Sto where
 t : TypeId
 x : Value
 ab : Nat
 X : List As
 meth : ∀ {w : World} {O R : Nat→Prop},(se X).p w O R→Meth t x ab w
 na : ∀ w : World, (nilAhead 411 t x "Alloc").run Tryz.prog w = .ok (some false) w
def Sto.v (S : Sto) : Value:=.iface S.t S.x
def Sto.a (S : Sto) (s : Ct.St) : As:=se [arA S.ab s,se S.X]
theorem Sto.meths (S : Sto) {s : Ct.St} (h : SH B w L) (m : At L (S.a s)) : Meth S.t S.x S.ab w:=by
 obtain ⟨O,R,Os,Rs,h1,_⟩:=h.at_ m
 exact S.meth (h1 1 _ rfl)
theorem Sto.sN (S : Sto) {s : Ct.St} (h : SH B w L) (m : At L (S.a s)) : Inv Tryz.prog S.v "Node" w 64 (.pointer (some ⟨S.ab, 0, none⟩)) := inv_of en_64 (S.meths h m).node
theorem Sto.sA (S : Sto) {s : Ct.St} (h : SH B w L) (m : At L (S.a s)) : Inv Tryz.prog S.v "Alloc" w 355 (.pointer (some ⟨S.ab, 0, none⟩)) := inv_of en_355 (S.meths h m).alloc
theorem Sto.sC (S : Sto) {s : Ct.St} (h : SH B w L) (m : At L (S.a s)) : Inv Tryz.prog S.v "NewCell" w 358 (.pointer (some ⟨S.ab, 0, none⟩)) := inv_of en_358 (S.meths h m).cell
theorem Sto.sG (S : Sto) {s : Ct.St} (h : SH B w L) (m : At L (S.a s)) : Inv Tryz.prog S.v "NewGen" w 359 (.pointer (some ⟨S.ab, 0, none⟩)) := inv_of en_359 (S.meths h m).gen
end Go.Proofs.YtmliojdkmfhmmaaGreat
namespace Go.E
open Go.Proofs.YtmliojdkmfhmmaaGreat
variable {B w : World} {L : List As}
theorem SH.ao {b : Nat} {s : Ct.St} (h : SH B w (arA b s::L)) : ∃ q : Mq,q.zs.map Prod.fst=s.added∧SH B w (arL b s q ++ L):=by
 obtain ⟨q,h⟩:=SH.ex (f:=fun q : Mq=>Go.E.se (Go.E.pu (q.zs.map Prod.fst=s.added)::arL b s q)) h
 exact ⟨q,(SH.se h).pu⟩
theorem SH.ai {b : Nat} {s : Ct.St} (q : Mq) (hq : q.zs.map Prod.fst=s.added) (h : SH B w (arL b s q ++ L)) : SH B w (arA b s::L) :=
 SH.in_ (f:=fun q : Mq=>Go.E.se (Go.E.pu (q.zs.map Prod.fst=s.added)::arL b s q)) q (SH.is (l:=_::_) (SH.ip hq h))
theorem SH.so {S : Sto} {s : Ct.St} (h : SH B w (S.a s::L)) : SH B w (arA S.ab s::Go.E.se S.X::L):=SH.se (l:=[_,_]) h
theorem SH.si {S : Sto} {s : Ct.St} (h : SH B w (arA S.ab s::Go.E.se S.X::L)) : SH B w (S.a s::L):=SH.is (l:=[_,_]) h
end Go.E
namespace Go.Proofs.YtmliojdkmfhmmaaGreat
open Go.E
variable {β : Type}
def cdA (S : Sto) (F : β→Cc→As) (n : Nat) : Ct.I β→Cc→As:=codeA Tryz.prog S.a (Ct.Rm 100) F n
def clA {α : Type} (S : Sto) (F : β→Cc→As) (n j : Nat) (args : α→List Value) (k : α→Ct.I β) (v : Fv) : As:=cloA Tryz.prog S.a (Ct.Rm j) (cdA S F n) args k v
def CP (S : Sto) (F : β→Cc→As) (n : Nat) (B : World) (t : Ct.I β) (s : Ct.St) (L : List As) : Ending→World→Prop:=CPg (cdA S F n) S.a B t s L
end Go.Proofs.YtmliojdkmfhmmaaGreat
end
