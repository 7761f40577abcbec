/- Parts of a proof: Sm, Sa1. -/
import Derived.Test.YtmliojdkmfhmmaaGreatW19
import Derived.Test.YtmliojdkmfhmmaaGreatW08
import Derived.Test.YtmliojdkmfhmmaaGreatW12
set_option linter.unusedVariables false
set_option linter.unusedSimpArgs false
set_option maxRecDepth 100000
set_option maxHeartbeats 4000000
section
namespace Go.Ct
variable {α β : Type}
class Qc (α : Type) where
 q : Ga→α→Prop
 ge : ∀ {g g' : Ga} {a : α},Ge g g'→q g a→q g' a
instance:Qc Result :=⟨fun g r=>r.trie.root≤0∨Tk g r.trie,fun k h=>h.imp id fun h=>h.ge k⟩
section
variable [Qc α]
inductive Sm {α : Type} [Qc α] : I α→I α→Ga→Prop
 | ret (a : α) (g : Ga) : Qc.q g a→Sm (.ret a) (.ret a) g
 | nl {r : Int} {k : Node→I α} {u : I α} {g : Ga} : r≤g.count→Sm (k (g.node r)) u g→Sm (.node r k) u g
 | nr {r : Int} {k : Node→I α} {u : I α} {g : Ga} : r≤g.count→Sm u (k (g.node r)) g→Sm u (.node r k) g
 | load {c : Int} {k k' : Int→I α} {g : Ga} (τ : CellTy) : g.cty c=some τ→(∀ g',Ge g g'→GW g'→∀ v,Holds g' c v τ→Sm (k v) (k' v) g')→Sm (.load c k) (.load c k') g
 | load0 {k k' : Int→I α} {g : Ga} : (∀ g',Ge g g'→GW g'→Sm (k 0) (k' 0) g')→Sm (.load 0 k) (.load 0 k') g
 | cas {c o n : Int} {k k' : Bool→I α} {g : Ga} (τ : CellTy) : g.cty c=some τ→May g n τ→(∀ g',Ge g g'→GW g'→((∃ b,τ=.prev b)→o=g.first c→g'.dec c)→∀ b,Sm (k b) (k' b) g')→Sm (.cas c o n k) (.cas c o n k') g
 | alloc {n : Node} {i : Int} {k k' : Int→I α} {g : Ga} (b : Lab) : NodeOk g n b→InitOk g n i b→(Ge g (g.alloc n i b)→GW (g.alloc n i b)→Sm (k (g.nodes.length+3)) (k' (g.nodes.length+3)) (g.alloc n i b))→Sm (.alloc n i k) (.alloc n i k') g
 | cell {i : Int} {k k' : Int→I α} {g : Ga} (τ : CellTy) : (τ=.root∨τ=.fixed)→isI g i (0,0)→(Ge g (g.cell τ i)→GW (g.cell τ i)→Sm (k (g.ty.length+1)) (k' (g.ty.length+1)) (g.cell τ i))→Sm (.cell i k) (.cell i k') g
 | gen {k k' : Int→I α} {g : Ga} : (Ge g g.newGen→GW g.newGen→Sm (k (g.gen+1)) (k' (g.gen+1)) g.newGen)→Sm (.gen k) (.gen k') g
inductive Sh {α : Type} [Qc α] : I α→I α→Ga→Prop
 | ret (a : α) (g : Ga) : Qc.q g a→Sh (.ret a) (.ret a) g
 | load {c : Int} {k k' : Int→I α} {g : Ga} (τ : CellTy) : g.cty c=some τ→(∀ g',Ge g g'→GW g'→∀ v,Holds g' c v τ→Sm (k v) (k' v) g')→Sh (.load c k) (.load c k') g
 | load0 {k k' : Int→I α} {g : Ga} : (∀ g',Ge g g'→GW g'→Sm (k 0) (k' 0) g')→Sh (.load 0 k) (.load 0 k') g
 | cas {c o n : Int} {k k' : Bool→I α} {g : Ga} (τ : CellTy) : g.cty c=some τ→May g n τ→(∀ g',Ge g g'→GW g'→((∃ b,τ=.prev b)→o=g.first c→g'.dec c)→∀ b,Sm (k b) (k' b) g')→Sh (.cas c o n k) (.cas c o n k') g
theorem May.ge {g g' : Ga} {n : Int} {τ : CellTy} (h : May g n τ) (k : Ge g g') : May g' n τ:=by
 cases τ with
 | root=>exact h.imp (fun h=>h.ge k) fun h=>h.ge k
 | fixed=>exact h
 | main b=>exact isM.ge h k
 | prev b=>exact h.imp id fun h=>h.ge k
 | status=>exact h
theorem Sh.ge {u u' : I α} {g g' : Ga} (h : Sh u u' g) (k : Ge g g') (hw : GW g) : Sh u u' g':=by
 cases h with
 | ret a _ hq=>exact .ret a g' (Qc.ge k hq)
 | load τ h1 h2=>exact .load τ (k.cty h1) fun g2 h3 h4=>h2 g2 (k.trans h3) h4
 | load0 h2=>exact .load0 fun g2 h3 h4=>h2 g2 (k.trans h3) h4
 | cas τ h1 hm h2=>exact .cas τ (k.cty h1) (hm.ge k) fun g2 h3 h4 h5=>h2 g2 (k.trans h3) h4 fun e1 e2=>h5 e1 (by rw [k.first hw h1]; exact e2)
structure Typ (g : Ga) (s : St) : Prop where
 nodes : s.added=g.nodes
 gen : s.gen=g.gen
 len : s.cells.length=g.ty.length
 holds : ∀ c τ,g.cty c=some τ→Holds g c (s.cells.getD (c.toNat - 1) 0) τ
 dec : ∀ c,g.dec c→c≤g.ty.length
theorem Typ.node {g : Ga} {s : St} (h : Typ g s) (r : Int) : s.node r=g.node r:=by
 unfold Ga.node Ga.st St.node St.nodes; rw [h.nodes]
theorem Typ.has {g : Ga} {s : St} (h : Typ g s) {c : Int} {τ : CellTy} (hc : g.cty c=some τ) : s.hasCell c=true:=by
 have:=cty_lt hc
 unfold St.hasCell; rw [h.len]; simp; omega
theorem Holds.ge {g g' : Ga} {c v : Int} {τ : CellTy} (h : Holds g c v τ) (k : Ge g g') (hw : GW g) (hc : g.cty c=some τ) (hd : g'.dec c→g.dec c∨v≠g.first c) : Holds g' c v τ:=by
 cases τ with
 | root=>exact h.imp (fun h=>h.ge k) fun h=>h.ge k
 | fixed=>exact isI.ge h k
 | main b=>exact isM.ge h k
 | prev b =>
  rcases h with h | h | ⟨h1,h2,h3⟩
  ·exact .inl h
  ·exact .inr (.inl (h.ge k))
  ·refine .inr (.inr ⟨by rw [k.first hw hc]; exact h1,h2.ge k,fun hd'=>?_⟩)
   rcases hd hd' with hd' | hd'
   ·exact h3 hd'
   ·exact hd' h1
 | status=>exact h
theorem Holds.may {g : Ga} {c n : Int} {τ : CellTy} (h : May g n τ) : Holds g c n τ:=by
 cases τ with
 | root=>exact h
 | fixed=>exact h.elim
 | main b=>exact h
 | prev b=>exact h.imp id .inl
 | status=>exact .inr h
theorem Holds.first {g : Ga} {c : Int} {τ : CellTy} (h : Holds g c (g.first c) τ) (hd : ¬ g.dec c) : Holds g c (g.first c) τ:=h
def Ga.decide (g : Ga) (c : Int) : Ga:={ g with dec:=fun d=>g.dec d∨d=c }
theorem Ga.decide_ge {g : Ga} (h : GW g) (c : Int) : Ge g (g.decide c) :=⟨List.prefix_refl _,List.prefix_refl _,List.prefix_refl _,List.prefix_refl _,Nat.le_refl _,fun _ h=>.inl h,h.lab⟩
theorem Ga.decide_gw {g : Ga} (h : GW g) (c : Int) : GW (g.decide c) :=
 ⟨fun m hm=>(h.node m hm).ge (Ga.decide_ge h c),h.cell,h.main,h.prev,h.status,h.sort,h.len,h.lab⟩
theorem Typ.load {g : Ga} {s : St} (h : Typ g s) (c : Int) : Typ g (s.load c).1 :=⟨h.nodes,h.gen,h.len,h.holds,h.dec⟩
theorem Typ.value {g : Ga} {s : St} (h : Typ g s) {c : Int} {τ : CellTy} (hc : g.cty c=some τ) : Holds g c (s.load c).2 τ:=by
 unfold St.load; dsimp only; rw [if_pos (h.has hc)]; exact h.holds c τ hc
theorem load_zero (s : St) : (s.load 0).2=0:=by
 unfold St.load St.hasCell; simp
theorem Typ.cas {g : Ga} {s : St} (h : Typ g s) (hw : GW g) {c o n : Int} {τ : CellTy} (hc : g.cty c=some τ) (hm : May g n τ) :
  ∃ g',Ge g g'∧GW g'∧((∃ b,τ=.prev b)→o=g.first c→g'.dec c)∧Typ g' (s.cas c o n).1:=by
 have hcl:=cty_lt hc
 by_cases hp : (∃ b,τ=.prev b)∧o=g.first c
 ·refine ⟨g.decide c,Ga.decide_ge hw c,g.decide_gw hw c,fun _ _=>.inr rfl,h.nodes,h.gen,?_,fun d σ hd=>?_,fun d hd=>hd.elim (h.dec d) fun e=>by rw [e]; exact hcl.2⟩
  ·show List.length (if _ then _ else _)=_
   split
   ·rw [List.length_set]; exact h.len
   ·exact h.len
  ·have hdl:=cty_lt (g:=g) hd
   have hH:=h.holds d σ hd
   show Holds (g.decide c) d (List.getD (if s.swaps c o then s.cells.set (c.toNat - 1) n else s.cells) _ _) σ
   by_cases hdc : d=c
   ·subst hdc
    obtain rfl : σ=τ:=Option.some.inj (hd.symm.trans hc)
    split
    ·rw [List.getD_eq_getElem?_getD,List.getElem?_set_self (by rw [h.len]; omega)]; exact Holds.may (hm.ge (Ga.decide_ge hw d))
    ·rename_i hs
     refine hH.ge (Ga.decide_ge hw d) hw hc fun _=>.inr fun e=>hs ?_
     unfold St.swaps; rw [h.has hc,e,hp.2]; simp
   ·have e : List.getD (if s.swaps c o then s.cells.set (c.toNat - 1) n else s.cells) (d.toNat - 1) 0=s.cells.getD (d.toNat - 1) 0:=by
     split
     ·rw [List.getD_eq_getElem?_getD,List.getD_eq_getElem?_getD,List.getElem?_set_ne (by omega)]
     ·rfl
    rw [e]
    exact hH.ge (Ga.decide_ge hw c) hw hd fun hd'=>.inl (hd'.resolve_right hdc)
 ·refine ⟨g,Ge.refl hw,hw,fun a b=>absurd ⟨a,b⟩ hp,h.nodes,h.gen,?_,fun d σ hd=>?_,h.dec⟩
  ·show List.length (if _ then _ else _)=_
   split
   ·rw [List.length_set]; exact h.len
   ·exact h.len
  ·have hdl:=cty_lt (g:=g) hd
   have hH:=h.holds d σ hd
   show Holds g d (List.getD (if s.swaps c o then s.cells.set (c.toNat - 1) n else s.cells) _ _) σ
   split
   ·by_cases hdc : d=c
    ·subst hdc
     obtain rfl : σ=τ:=Option.some.inj (hd.symm.trans hc)
     rw [List.getD_eq_getElem?_getD,List.getElem?_set_self (by rw [h.len]; omega)]; exact Holds.may hm
    ·rw [List.getD_eq_getElem?_getD,List.getElem?_set_ne (by omega),← List.getD_eq_getElem?_getD]; exact hH
   ·exact hH
theorem stored_eq (s : St) (n : Node) (i : Int) : (s.alloc n i).1.added=s.added ++ [n.stored (s.cells.length+1)]:=by
 unfold St.alloc Node.stored St.newCell
 simp only [beq_iff_eq]
 split <;> rfl
theorem alloc_cells (s : St) (n : Node) (i : Int) (b : Lab) : (s.alloc n i).1.cells=s.cells ++ (n.cellTy b).toList.map fun _=>i:=by
 unfold St.alloc Node.cellTy St.newCell
 by_cases h2 : n.kind=2
 ·simp [h2]
 ·by_cases hm : n.isMain=true
  ·simp [h2,hm]
  ·by_cases h8 : n.kind=8
   ·simp [h2,hm,h8]
   ·simp [h2,hm,h8]
theorem cty_old {g : Ga} {l : List CellTy} {c : Int} {τ : CellTy} {g' : Ga} (hg : g'.ty=g.ty ++ l) (h : g'.cty c=some τ) : g.cty c=some τ∨(g.ty.length : Int)<c∧l[c.toNat - 1 - g.ty.length]? = some τ:=by
 unfold Ga.cty at h ⊢
 split at h
 ·cases h
 ·rename_i h1
  rw [if_neg h1]
  rw [hg] at h
  by_cases hl : c.toNat - 1<g.ty.length
  ·rw [List.getElem?_append_left hl] at h; exact .inl h
  ·rw [List.getElem?_append_right (by omega)] at h; exact .inr ⟨by omega,h⟩
theorem Typ.alloc {g : Ga} {s : St} (h : Typ g s) (hw : GW g) {n : Node} {i : Int} {b : Lab} (hn : NodeOk g n b) (hi : InitOk g n i b) :
  Typ (g.alloc n i b) (s.alloc n i).1∧(s.alloc n i).2=g.nodes.length+3:=by
 have hge:=Ga.alloc_ge hw n i b
 refine ⟨⟨?_,?_,?_,fun c τ hc=>?_,fun c hc=>?_⟩,?_⟩
 ·rw [stored_eq,alloc_nodes,h.nodes,h.len]
 ·rw [(alloc_rest g n i b).1,← h.gen]; unfold St.alloc St.newCell; dsimp only; split <;> rfl
 ·rw [alloc_cells s n i b,(alloc_ty g n i b).1,List.length_append,List.length_append,List.length_map,h.len]
 ·rw [alloc_cells s n i b]
  rcases cty_old (alloc_ty g n i b).1 hc with h1 | ⟨h1,h2⟩
  ·have hcl:=cty_lt h1
   rw [List.getD_eq_getElem?_getD,List.getElem?_append_left (by rw [h.len]; omega),← List.getD_eq_getElem?_getD]
   exact (h.holds c τ h1).ge hge hw h1 fun hd'=>.inl (by rw [(alloc_rest g n i b).2] at hd'; exact hd')
  ·have e : n.cellTy b=some τ∧c.toNat - 1 - g.ty.length=0:=by
    cases hct : n.cellTy b with
    | none=>rw [hct] at h2; simp at h2
    | some σ =>
     rw [hct] at h2
     cases hk : c.toNat - 1 - g.ty.length with
     | zero=>rw [hk] at h2; simp at h2; exact ⟨by rw [h2],rfl⟩
     | succ k=>rw [hk] at h2; simp at h2
   have ev : List.getD (s.cells ++ (n.cellTy b).toList.map fun _=>i) (c.toNat - 1) 0=i:=by
    rw [List.getD_eq_getElem?_getD,List.getElem?_append_right (by rw [h.len]; omega),h.len,e.2,e.1]; rfl
   have ef : (g.alloc n i b).first c=i:=by
    unfold Ga.first
    rw [(alloc_ty g n i b).2,List.getD_eq_getElem?_getD,List.getElem?_append_right (by rw [hw.len]; omega),hw.len,e.2,e.1]; rfl
   rw [ev]
   have h3:=e.1
   unfold Node.cellTy at h3
   split at h3
   ·rename_i k2
    obtain rfl:=Option.some.inj h3
    exact (hi.1 k2).ge hge
   ·split at h3
    ·rename_i k2 km
     obtain rfl:=Option.some.inj h3
     rcases hi.2.1 km with h0 | h0
     ·exact .inl h0
     ·exact .inr (.inr ⟨ef.symm,h0.ge hge,fun hd'=>by rw [(alloc_rest g n i b).2] at hd'; have:=h.dec c hd'; omega⟩)
    ·split at h3
     ·rename_i k2 km k8
      obtain rfl:=Option.some.inj h3
      exact .inl (hi.2.2 k8)
     ·cases h3
 ·rw [(alloc_rest g n i b).2] at hc; have:=h.dec c hc; rw [(alloc_ty g n i b).1,List.length_append]; omega
 ·show (s.added.length : Int)+3=_; rw [h.nodes]
theorem Typ.cell {g : Ga} {s : St} (h : Typ g s) (hw : GW g) {i : Int} {σ : CellTy} (hσ : σ=.root∨σ=.fixed) (hi : isI g i (0,0)) : Typ (g.cell σ i) (s.newCell i).1∧(s.newCell i).2=g.ty.length+1:=by
 have hge:=Ga.cell_ge hw σ i
 refine ⟨⟨h.nodes,h.gen,?_,fun c τ hc=>?_,fun c hc=>by have:=h.dec c hc; show c≤((g.ty ++ [σ]).length : Nat); rw [List.length_append]; omega⟩,?_⟩
 ·show (s.cells ++ [i]).length=(g.ty ++ [σ]).length; simp [h.len]
 ·show Holds _ c ((s.cells ++ [i]).getD _ _) τ
  rcases cty_old (g:=g) (l:=[σ]) rfl hc with h1 | ⟨h1,h2⟩
  ·have hcl:=cty_lt h1
   rw [List.getD_eq_getElem?_getD,List.getElem?_append_left (by rw [h.len]; omega),← List.getD_eq_getElem?_getD]
   exact (h.holds c τ h1).ge hge hw h1 fun hd'=>.inl hd'
  ·cases hk : c.toNat - 1 - g.ty.length with
   | zero =>
    rw [hk] at h2; simp at h2; subst h2
    rw [List.getD_eq_getElem?_getD,List.getElem?_append_right (by rw [h.len]; omega),h.len,hk]
    rcases hσ with rfl | rfl
    ·exact .inl (hi.ge hge)
    ·exact hi.ge hge
   | succ k=>rw [hk] at h2; simp at h2
 ·show (s.cells.length : Int)+1=_; rw [h.len]
theorem Typ.newGen {g : Ga} {s : St} (h : Typ g s) (hw : GW g) : Typ g.newGen s.newGen.1∧s.newGen.2=g.gen+1:=by
 refine ⟨⟨h.nodes,by show s.gen+1=g.gen+1; rw [h.gen],h.len,fun c τ hc=>?_,h.dec⟩,by show ((s.gen : Nat) : Int)+1=_; rw [h.gen]⟩
 exact (h.holds c τ hc).ge (Ga.gen_ge hw) hw hc fun hd'=>.inl hd'
theorem Sm.head {α : Type} [Qc α] {t t' : I α} {g : Ga} (h : Sm t t' g) : GW g→∀ s,Typ g s→∃ g' s' u u',t.head s=(s',u)∧t'.head s=(s',u')∧Ge g g'∧GW g'∧Typ g' s'∧Sh u u' g':=by
 induction h with
 | ret a g hq=>exact fun hw s hs=>⟨g,s,_,_,rfl,rfl,Ge.refl hw,hw,hs,.ret a g hq⟩
 | nl hr h ih =>
  intro hw s hs
  obtain ⟨g',s',u,u',h1,h2⟩:=ih hw s hs
  exact ⟨g',s',u,u',by unfold I.head; rw [hs.node]; exact h1,h2⟩
 | nr hr h ih =>
  intro hw s hs
  obtain ⟨g',s',u,u',h1,h2,h3⟩:=ih hw s hs
  exact ⟨g',s',u,u',h1,by unfold I.head; rw [hs.node]; exact h2,h3⟩
 | load τ h1 h2 ih=>exact fun hw s hs=>⟨_,s,_,_,rfl,rfl,Ge.refl hw,hw,hs,.load τ h1 h2⟩
 | load0 h2 ih=>exact fun hw s hs=>⟨_,s,_,_,rfl,rfl,Ge.refl hw,hw,hs,.load0 h2⟩
 | cas τ h1 hm h2 ih=>exact fun hw s hs=>⟨_,s,_,_,rfl,rfl,Ge.refl hw,hw,hs,.cas τ h1 hm h2⟩
 | @alloc n i k k' g b hn hi h ih =>
  intro hw s hs
  obtain ⟨h1,h2⟩:=hs.alloc hw hn hi
  have hw':=alloc_gw hw hn (i:=i)
  obtain ⟨g',s',u,u',e1,e2,e3,e4⟩:=ih (Ga.alloc_ge hw n i b) hw' hw' _ h1
  exact ⟨g',s',u,u',by unfold I.head; rw [h2]; exact e1,by unfold I.head; rw [h2]; exact e2,(Ga.alloc_ge hw n i b).trans e3,e4⟩
 | @cell i k k' g τ hτ hi h ih =>
  intro hw s hs
  obtain ⟨h1,h2⟩:=hs.cell hw hτ hi
  have hw':=cell_gw hw τ i
  obtain ⟨g',s',u,u',e1,e2,e3,e4⟩:=ih (Ga.cell_ge hw τ i) hw' hw' _ h1
  exact ⟨g',s',u,u',by unfold I.head; rw [h2]; exact e1,by unfold I.head; rw [h2]; exact e2,(Ga.cell_ge hw τ i).trans e3,e4⟩
 | @gen k k' g h ih =>
  intro hw s hs
  obtain ⟨h1,h2⟩:=hs.newGen hw
  have hw':=gen_gw hw
  obtain ⟨g',s',u,u',e1,e2,e3,e4⟩:=ih (Ga.gen_ge hw) hw' hw' _ h1
  exact ⟨g',s',u,u',by unfold I.head; rw [h2]; exact e1,by unfold I.head; rw [h2]; exact e2,(Ga.gen_ge hw).trans e3,e4⟩
theorem Sh.onload {c : Int} {k : Int→I α} {u' : I α} {g : Ga} (h : Sh (.load c k) u' g) (hw : GW g) {s : St} (hs : Typ g s) : ∃ k',u'=.load c k'∧Typ g (s.load c).1∧Sm (k (s.load c).2) (k' (s.load c).2) g:=by
 cases h with
 | load τ h1 h2=>exact ⟨_,rfl,hs.load c,h2 g (Ge.refl hw) hw _ (hs.value h1)⟩
 | load0 h2=>exact ⟨_,rfl,hs.load 0,by rw [load_zero]; exact h2 g (Ge.refl hw) hw⟩
theorem Sh.oncas {c o n : Int} {k : Bool→I α} {u' : I α} {g : Ga} (h : Sh (.cas c o n k) u' g) (hw : GW g) {s : St} (hs : Typ g s) : ∃ k' g',u'=.cas c o n k'∧Ge g g'∧GW g'∧Typ g' (s.cas c o n).1∧Sm (k (s.cas c o n).2) (k' (s.cas c o n).2) g':=by
 cases h with
 | cas τ h1 hm h2 =>
  obtain ⟨g',e1,e2,e3,e4⟩:=hs.cas hw (o:=o) h1 hm
  exact ⟨_,g',rfl,e1,e2,e4,h2 g' e1 e2 e3 _⟩
end
inductive Rp {α : Type} (g : Ga) : I α→List Int→List Int→List Int→List Int→I α→Prop
 | at_ (u : I α) : Rp g u [] [] [] [] u
 | load {c v : Int} {k : Int→I α} {l m d e : List Int} {u : I α} : Rp g (k v) l m d e u→Rp g (.load c k) (v::l) m d e u
 | cas {c o n v : Int} {k : Bool→I α} {l m d e : List Int} {u : I α} : Rp g (k (v==1)) l m d e u→Rp g (.cas c o n k) (v::l) m d e u
 | alloc {n : Node} {i r : Int} {k : Int→I α} {l m d e : List Int} {u : I α} : Rp g (k r) l m d e u→Rp g (.alloc n i k) l (r::m) d e u
 | cell {i r : Int} {k : Int→I α} {l m d e : List Int} {u : I α} : Rp g (k r) l m d e u→Rp g (.cell i k) l m (r::d) e u
 | gen {r : Int} {k : Int→I α} {l m d e : List Int} {u : I α} : Rp g (k r) l m d e u→Rp g (.gen k) l m d (r::e) u
 | node {r : Int} {k : Node→I α} {l m d e : List Int} {u : I α} : r≤g.count→Rp g (k (g.node r)) l m d e u→Rp g (.node r k) l m d e u
theorem Rp.ge {g g' : Ga} (k : Ge g g') {t u : I α} {l m d e : List Int} (h : Rp g t l m d e u) : Rp g' t l m d e u:=by
 induction h with
 | at_ u=>exact .at_ u
 | load _ ih=>exact .load ih
 | cas _ ih=>exact .cas ih
 | alloc _ ih=>exact .alloc ih
 | cell _ ih=>exact .cell ih
 | gen _ ih=>exact .gen ih
 | node hr _ ih =>
  refine .node ?_ (by rw [k.node hr]; exact ih)
  have:=k.nodes.length_le
  unfold Ga.count at *; omega
theorem Rp.trans {g : Ga} {t u v : I α} {l m d e l' m' d' e' : List Int} (h : Rp g t l m d e u) (h' : Rp g u l' m' d' e' v) : Rp g t (l ++ l') (m ++ m') (d ++ d') (e ++ e') v:=by
 induction h with
 | at_ u=>exact h'
 | load _ ih=>exact .load (ih h')
 | cas _ ih=>exact .cas (ih h')
 | alloc _ ih=>exact .alloc (ih h')
 | cell _ ih=>exact .cell (ih h')
 | gen _ ih=>exact .gen (ih h')
 | node hr _ ih=>exact .node hr (ih h')
def X.atEnd (x : X) : X:={ x with e:={ x.e with a:=x.e.got.length,m:=x.e.made.length,c:=x.e.cells.length,g:=x.e.gens.length } }
theorem drop_cons {l : List Int} {a : Nat} {v : Int} {r : List Int} (h : l.drop a=v::r) : a<l.length∧l.getD a 0=v∧l.drop (a+1)=r:=by
 have h1 : a<l.length:=by
  rcases Nat.lt_or_ge a l.length with h1 | h1
  ·exact h1
  ·rw [List.drop_eq_nil_of_le h1] at h; cases h
 rw [List.drop_eq_getElem_cons h1] at h
 injection h with h2 h3
 exact ⟨h1,by rw [List.getD_eq_getElem?_getD,List.getElem?_eq_getElem h1]; exact h2,h3⟩
theorem drop_nil {l : List Int} {a : Nat} (h : l.drop a=[]) (ha : a≤l.length) : a=l.length:=by
 have:=List.drop_eq_nil_iff.1 h; omega
theorem Rp.run {g : Ga} {t u : I α} {l m d e : List Int} (h : Rp g t l m d e u) : ∀ x : X,Typ g x.s→x.e.stopped=false→x.e.a≤x.e.got.length→x.e.m≤x.e.made.length→x.e.c≤x.e.cells.length→x.e.g≤x.e.gens.length →
  x.e.got.drop x.e.a=l→x.e.made.drop x.e.m=m→x.e.cells.drop x.e.c=d→x.e.gens.drop x.e.g=e→runI t x=runI u x.atEnd:=by
 induction h with
 | at_ u =>
  intro x _ _ ha hm hc hg h1 h2 h3 h4
  have e1:=drop_nil h1 ha; have e2:=drop_nil h2 hm; have e3:=drop_nil h3 hc; have e4:=drop_nil h4 hg
  congr 1
  unfold X.atEnd; rw [← e1,← e2,← e3,← e4]
 | load _ ih =>
  intro x ht hs ha hm hc hg h1 h2 h3 h4
  obtain ⟨a1,a2,a3⟩:=drop_cons h1
  rw [run_load]
  unfold loadR; rw [if_neg (by rw [hs]; decide),if_pos a1]
  show runI _ (oldX x)=_
  rw [a2]
  exact ih (oldX x) ht hs a1 hm hc hg a3 h2 h3 h4
 | cas _ ih =>
  intro x ht hs ha hm hc hg h1 h2 h3 h4
  obtain ⟨a1,a2,a3⟩:=drop_cons h1
  rw [run_cas]
  unfold casR; rw [if_neg (by rw [hs]; decide),if_pos a1]
  show runI _ (oldX x)=_
  rw [a2]
  exact ih (oldX x) ht hs a1 hm hc hg a3 h2 h3 h4
 | alloc _ ih =>
  intro x ht hs ha hm hc hg h1 h2 h3 h4
  obtain ⟨a1,a2,a3⟩:=drop_cons h2
  rw [run_alloc]
  unfold allocR; rw [if_neg (by rw [hs]; decide),if_neg (by omega)]
  show runI _ _=_
  rw [a2]
  exact ih { x with e:={ x.e with m:=x.e.m+1 } } ht hs ha a1 hc hg h1 a3 h3 h4
 | cell _ ih =>
  intro x ht hs ha hm hc hg h1 h2 h3 h4
  obtain ⟨a1,a2,a3⟩:=drop_cons h3
  rw [run_cell]
  unfold cellR; rw [if_neg (by rw [hs]; decide),if_neg (by omega)]
  show runI _ _=_
  rw [a2]
  exact ih { x with e:={ x.e with c:=x.e.c+1 } } ht hs ha hm a1 hg h1 h2 a3 h4
 | gen _ ih =>
  intro x ht hs ha hm hc hg h1 h2 h3 h4
  obtain ⟨a1,a2,a3⟩:=drop_cons h4
  rw [run_gen]
  unfold genR; rw [if_neg (by rw [hs]; decide),if_neg (by omega)]
  show runI _ _=_
  rw [a2]
  exact ih { x with e:={ x.e with g:=x.e.g+1 } } ht hs ha hm hc a1 h1 h2 h3 a3
 | node hr _ ih =>
  intro x ht hs ha hm hc hg h1 h2 h3 h4
  rw [run_node,show ∀ r,x.node r=g.node r from ht.node]
  exact ih x ht hs ha hm hc hg h1 h2 h3 h4
def X.more (x : X) (s : St) (m d e : List Int) : X:=({ x with e:={ x.e with made:=x.e.made ++ m,cells:=x.e.cells ++ d,gens:=x.e.gens ++ e },s:=s } : X).atEnd
theorem Sm.run {α : Type} [Qc α] {t t' : I α} {g : Ga} (h : Sm t t' g) : GW g→∀ x : X,x=x.atEnd→Typ g x.s→x.e.stopped=false →
  ∃ g' s' u u' m d e,t.head x.s=(s',u)∧t'.head x.s=(s',u')∧Ge g g'∧GW g'∧Typ g' s'∧Sh u u' g'∧Rp g' t' [] m d e u'∧runI t' x=runI u' (x.more s' m d e):=by
 have fin : ∀ (x : X),x=x.atEnd→x.more x.s [] [] []=x:=fun x hx=>by
  unfold X.more; simp only [List.append_nil]; exact hx.symm
 induction h with
 | ret a g hq=>exact fun hw x hx ht hs=>⟨g,x.s,_,_,[],[],[],rfl,rfl,Ge.refl hw,hw,ht,.ret a g hq,.at_ _,by rw [fin x hx]⟩
 | nl hr h ih =>
  intro hw x hx ht hs
  obtain ⟨g',s',u,u',m,d,e,h1,h2⟩:=ih hw x hx ht hs
  exact ⟨g',s',u,u',m,d,e,by unfold I.head; rw [ht.node]; exact h1,h2⟩
 | nr hr h ih =>
  intro hw x hx ht hs
  obtain ⟨g',s',u,u',m,d,e,h1,h2,h3,h4,h5,h6,h7,h8⟩:=ih hw x hx ht hs
  refine ⟨g',s',u,u',m,d,e,h1,by unfold I.head; rw [ht.node]; exact h2,h3,h4,h5,h6,.node ?_ (by rw [h3.node hr]; exact h7),?_⟩
  ·have:=h3.nodes.length_le
   unfold Ga.count at *; omega
  ·rw [run_node,show ∀ r,x.node r=_ from ht.node]; exact h8
 | load τ h1 h2 ih=>exact fun hw x hx ht hs=>⟨_,x.s,_,_,[],[],[],rfl,rfl,Ge.refl hw,hw,ht,.load τ h1 h2,.at_ _,by rw [fin x hx]⟩
 | load0 h2 ih=>exact fun hw x hx ht hs=>⟨_,x.s,_,_,[],[],[],rfl,rfl,Ge.refl hw,hw,ht,.load0 h2,.at_ _,by rw [fin x hx]⟩
 | cas τ h1 hm h2 ih=>exact fun hw x hx ht hs=>⟨_,x.s,_,_,[],[],[],rfl,rfl,Ge.refl hw,hw,ht,.cas τ h1 hm h2,.at_ _,by rw [fin x hx]⟩
 | @alloc n i k k' g b hn hi h ih =>
  intro hw x hx ht hs
  obtain ⟨a1,a2⟩:=ht.alloc hw hn hi
  have hw':=alloc_gw hw hn (i:=i)
  have hm : x.e.m=x.e.made.length:=congrArg (fun y : X=>y.e.m) hx
  obtain ⟨g',s',u,u',m,d,e,h1,h2,h3,h4,h5,h6,h7,h8⟩:=ih (Ga.alloc_ge hw n i b) hw' hw' { e:={ x.e with made:=x.e.made ++ [(x.s.alloc n i).2],m:=x.e.m+1 },s:=(x.s.alloc n i).1 }
   (by rw [hx]; unfold X.atEnd; simp) a1 hs
  refine ⟨g',s',u,u',_,d,e,by unfold I.head; rw [a2]; exact h1,by unfold I.head; rw [a2]; exact h2,(Ga.alloc_ge hw n i b).trans h3,h4,h5,h6,.alloc h7,?_⟩
  rw [run_alloc]
  unfold allocR; rw [if_neg (by rw [hs]; decide),if_pos hm]
  show runI _ _=_
  rw [← a2] at h8 ⊢
  rw [h8]
  unfold X.more; simp only [List.append_assoc,List.singleton_append]; rfl
 | @cell i k k' g τ hτ hi h ih =>
  intro hw x hx ht hs
  obtain ⟨a1,a2⟩:=ht.cell hw hτ hi
  have hw':=cell_gw hw τ i
  have hm : x.e.c=x.e.cells.length:=congrArg (fun y : X=>y.e.c) hx
  obtain ⟨g',s',u,u',m,d,e,h1,h2,h3,h4,h5,h6,h7,h8⟩:=ih (Ga.cell_ge hw τ i) hw' hw' { e:={ x.e with cells:=x.e.cells ++ [(x.s.newCell i).2],c:=x.e.c+1 },s:=(x.s.newCell i).1 }
   (by rw [hx]; unfold X.atEnd; simp) a1 hs
  refine ⟨g',s',u,u',m,_,e,by unfold I.head; rw [a2]; exact h1,by unfold I.head; rw [a2]; exact h2,(Ga.cell_ge hw τ i).trans h3,h4,h5,h6,.cell h7,?_⟩
  rw [run_cell]
  unfold cellR; rw [if_neg (by rw [hs]; decide),if_pos hm]
  show runI _ _=_
  rw [← a2] at h8 ⊢
  rw [h8]
  unfold X.more; simp only [List.append_assoc,List.singleton_append]; rfl
 | @gen k k' g h ih =>
  intro hw x hx ht hs
  obtain ⟨a1,a2⟩:=ht.newGen hw
  have hw':=gen_gw hw
  have hm : x.e.g=x.e.gens.length:=congrArg (fun y : X=>y.e.g) hx
  obtain ⟨g',s',u,u',m,d,e,h1,h2,h3,h4,h5,h6,h7,h8⟩:=ih (Ga.gen_ge hw) hw' hw' { e:={ x.e with gens:=x.e.gens ++ [x.s.newGen.2],g:=x.e.g+1 },s:=x.s.newGen.1 }
   (by rw [hx]; unfold X.atEnd; simp) a1 hs
  refine ⟨g',s',u,u',m,d,_,by unfold I.head; rw [a2]; exact h1,by unfold I.head; rw [a2]; exact h2,(Ga.gen_ge hw).trans h3,h4,h5,h6,.gen h7,?_⟩
  rw [run_gen]
  unfold genR; rw [if_neg (by rw [hs]; decide),if_pos hm]
  show runI _ _=_
  rw [← a2] at h8 ⊢
  rw [h8]
  unfold X.more; simp only [List.append_assoc,List.singleton_append]; rfl
end Go.Ct
end
section
namespace Go.Ct
variable {α β γ : Type} {g : Ga}
theorem I.bind_assoc : ∀ (t : I α) (f : α→I β) (h : β→I γ),(t.bind f).bind h=t.bind fun v=>(f v).bind h
 | .ret a,f,h=>rfl
 | .load c k,f,h=>by show I.load c _=I.load c _; congr 1; funext v; exact I.bind_assoc (k v) f h
 | .cas c o n k,f,h=>by show I.cas c o n _=I.cas c o n _; congr 1; funext v; exact I.bind_assoc (k v) f h
 | .alloc n i k,f,h=>by show I.alloc n i _=I.alloc n i _; congr 1; funext v; exact I.bind_assoc (k v) f h
 | .cell i k,f,h=>by show I.cell i _=I.cell i _; congr 1; funext v; exact I.bind_assoc (k v) f h
 | .gen k,f,h=>by show I.gen _=I.gen _; congr 1; funext v; exact I.bind_assoc (k v) f h
 | .node r k,f,h=>by show I.node r _=I.node r _; congr 1; funext v; exact I.bind_assoc (k v) f h
theorem Sm.as [Qc γ] {t : I γ} {u : I α} {f : α→I β} {h : β→I γ} (k : Sm t (u.bind fun v=>(f v).bind h) g) : Sm t ((u.bind f).bind h) g:=by rw [I.bind_assoc]; exact k
variable [Qc β]
theorem Sm.cc {c : Bool} {a b : I β} {x y : I α} {k : α→I β} (h1 : c=true→Sm a (x.bind k) g) (h2 : c=false→Sm b (y.bind k) g) : Sm (bif c then a else b) ((bif c then x else y).bind k) g:=by
 cases c with
 | true=>exact h1 rfl
 | false=>exact h2 rfl
theorem Sm.cn {c : Bool} {a b : I β} {x y : I α} {k : α→I β} (h1 : c=true→Sm b (x.bind k) g) (h2 : c=false→Sm a (y.bind k) g) : Sm (bif !c then a else b) ((bif c then x else y).bind k) g:=by
 cases c with
 | true=>exact h1 rfl
 | false=>exact h2 rfl
theorem Sm.tt {c : Bool} {a b : I β} {u : I β} (hc : c=true) (h : Sm a u g) : Sm (bif c then a else b) u g:=by rw [hc]; exact h
theorem Sm.ff {c : Bool} {a b : I β} {u : I β} (hc : c=false) (h : Sm b u g) : Sm (bif c then a else b) u g:=by rw [hc]; exact h
theorem Sm.rt {c : Bool} {x y : I α} {k : α→I β} {t : I β} (hc : c=true) (h : Sm t (x.bind k) g) : Sm t ((bif c then x else y).bind k) g:=by rw [hc]; exact h
theorem Sm.rf {c : Bool} {x y : I α} {k : α→I β} {t : I β} (hc : c=false) (h : Sm t (y.bind k) g) : Sm t ((bif c then x else y).bind k) g:=by rw [hc]; exact h
theorem okS {k g0 o e w : Int} {b : Lab} (hk : k=2∨k=7∨k=8) (hv : Node.valid { kind:=k,gen:=g0,old:=o,expected:=e,new:=w }=true) (hi : k=2→g0≤g.gen∧b.1≤11) (hf : k=7→isM g o b) (hd : k=8→isI g o (0,0)∧isM g e (0,0)∧isI g w (0,0)) :
  NodeOk g { kind:=k,gen:=g0,old:=o,expected:=e,new:=w } b:=by
 refine ⟨hv,⟨0,fit_small 0 k g0 o e w (by omega)⟩,by show 2≤k; omega,by show k≤8; omega,hi,fun h=>?_,fun h=>?_,fun h=>?_,hf,hd⟩
 ·exact absurd (show k=3 from h) (by omega)
 ·exact absurd (show k=5 from h) (by omega)
 ·exact absurd (show k=6 from h) (by omega)
theorem isM.one {r : Int} {b : Lab} (h : isM g r b) : 1≤r:=node_one (g:=g) (r:=r) (by have:=h.two; omega)
theorem isI.one {r : Int} {b : Lab} (h : isI g r b) : 1≤r:=node_one (by rw [h.1]; decide)
theorem isS.one {r : Int} {b : Lab} (h : isS g r b) : 1≤r:=node_one (by rw [h.1]; decide)
theorem ok_failed {p : Int} {b : Lab} (h : isM g p b) : NodeOk g { kind:=7,old:=p } b :=
 okS (.inr (.inl rfl)) (by have:=h.one; unfold Node.valid; simp [nodeEq,Node.only,keyEq,pairsEq,this]) (fun h=>by cases h) (fun _=>h) fun h=>by cases h
theorem ok_inner {x : Int} {b : Lab} (h1 : 1≤x) (h2 : x≤g.gen) (hb : b.1≤11) : NodeOk g { kind:=2,gen:=x } b :=
 okS (.inl rfl) (by unfold Node.valid; simp [nodeEq,Node.only,keyEq,pairsEq,h1]) (fun _=>⟨h2,hb⟩) (fun h=>by cases h) fun h=>by cases h
theorem ok_desc {o e w : Int} {b : Lab} (ho : isI g o (0,0)) (he : isM g e (0,0)) (hw : isI g w (0,0)) : NodeOk g { kind:=8,old:=o,expected:=e,new:=w } b :=
 okS (.inr (.inr rfl)) (by have:=ho.one; have:=he.one; have:=hw.one; unfold Node.valid; simp [nodeEq,Node.only,keyEq,pairsEq, *]) (fun h=>by cases h) (fun h=>by cases h) fun _=>⟨ho,he,hw⟩
theorem ok_empty {b : Lab} (hb : b.1≤10) (hb2 : b.2<64 ^ b.1) : NodeOk g { kind:=3 } b :=
 ⟨by decide +kernel,⟨0,fit_empty 0⟩,by decide,by decide,(fun h=>by cases h),fun _=>⟨hb,hb2,fun k hk=>by
  have:=blookup_pos hk
  unfold blookup at this; rw [if_pos (.inr (by unfold Bm.has; simp))] at this; exact absurd this (by decide)⟩,(fun h=>by cases h),(fun h=>by cases h),(fun h=>by cases h),fun h=>by cases h⟩
theorem isF.notMain {p : Int} {b : Lab} (h : isF g p b) : (g.node p).isMain=false:=by unfold Node.isMain; rw [h.1]; rfl
abbrev Kp (g : Ga) (b : Lab) (k : Int→I β) (k' : Int→I β) : Prop:=∀ g',Ge g g'→GW g'→∀ r,isM g' r b→Sm (k r) (k' r) g'
abbrev Ki (g : Ga) (k : Int→I β) (k' : Int→I β) : Prop:=∀ g',Ge g g'→GW g'→∀ r,isI g' r (0,0)→Sm (k r) (k' r) g'
theorem Kp.ge {b : Lab} {k k' : Int→I β} {g' : Ga} (h : Kp g b k k') (hg : Ge g g') : Kp g' b k k':=fun g2 h2 hw r hr=>h g2 (hg.trans h2) hw r hr
theorem Ki.ge {k k' : Int→I β} {g' : Ga} (h : Ki g k k') (hg : Ge g g') : Ki g' k k':=fun g2 h2 hw r hr=>h g2 (hg.trans h2) hw r hr
theorem sm_back {k k' : Int→I β} {i m p : Int} {b : Lab} (hw : GW g) (hi : isI g i b) (hp : isF g p b) (hk : Kp g b k k') : Sm (backT i m p k) ((backI i m p).bind k') g:=by
 have ho:=(hw.ofF hp).f hp.1
 refine .nl hp.in_ (.nl hi.in_ (.nr hi.in_ (.nr hp.in_ (.cas (.main b) (hw.mainC hi) ho fun g' hg hw' _ ok=>.nr (hp.ge hg).in_ ?_))))
 rw [hg.node hp.in_]; exact hk g' hg hw' _ (ho.ge hg)
theorem sm_last {k k' : Int→I β} {i m pr : Int} {b : Lab} {ok : Bool} (hw : GW g) (hi : isI g i b) (hm : isM g m b) (hpr : pr=(g.node m).prev) (hd : g.dec pr) (hk : Kp g b k k') : Sm (againT pr i m k ok) ((lastI i m).bind k') g:=by
 subst hpr
 refine .nr hm.in_ (.load (.prev b) (hw.prevC hm) fun g' hg hw' v hv=>?_)
 refine Sm.cc (fun h=>hk g' hg hw' m (hm.ge hg)) fun h=>?_
 have h0 : v≠0:=by simpa using h
 have hp : isF g' v b:=by
  rcases hv with hv | hv | ⟨_,_,hv⟩
  ·exact absurd hv h0
  ·exact hv
  ·exact absurd (hg.dec _ hd) hv
 exact sm_back hw' (hi.ge hg) hp (hk.ge hg)
theorem sm_fail {k k' : Int→I β} {i m p pr : Int} {b : Lab} (hw : GW g) (hi : isI g i b) (hm : isM g m b) (hp : isM g p b) (hpr : pr=(g.node m).prev) (hf : p=g.first pr) (hk : Kp g b k k') : Sm (decideT pr p false (againT pr i m k)) ((failI i m p).bind k') g:=by
 subst hpr
 refine .nr hm.in_ (.alloc b (ok_failed hp) ⟨(fun h=>by cases h),(fun h=>by cases h),fun h=>by cases h⟩ fun hg hw'=>?_)
 refine .cas (.prev b) (hg.cty (hw.prevC hm)) (.inr (alloc_isF hw rfl)) fun g2 h2 hw2 hd ok=>?_
 have hg2:=hg.trans h2
 exact sm_last hw2 (hi.ge hg2) (hm.ge hg2) (by rw [hg2.node hm.in_]) (hd ⟨b,rfl⟩ (by rw [hg.first hw (hw.prevC hm)]; exact hf)) (hk.ge hg2)
theorem sm_won {t : Trie} {k k' : Int→I β} {v s : Int} (hw : GW g) (ht : g.cty t.root=some .root) (hv : isD g v) (hk : Ki g k k') : Sm (wonT t v s k) ((wonI t v s).bind k') g:=by
 have hd:=(hw.ofD hv).d hv
 unfold wonT wonI winnerI
 refine .nl hv.in_ ?_
 generalize (s==1)=c
 cases c with
 | true=>exact .nr hv.in_ (.cas .root ht (.inl hd.2.2) fun g' hg hw' _ ok=>hk g' hg hw' _ (hd.2.2.ge hg))
 | false=>exact .nr hv.in_ (.cas .root ht (.inl hd.1) fun g' hg hw' _ ok=>hk g' hg hw' _ (hd.1.ge hg))
theorem rootv {v : Int} {c : Int} (h : Holds g c v .root) (hc : ((g.node v).kind==2)=false) : isD g v:=by
 rcases h with h | h
 ·rw [h.1] at hc; exact absurd hc (by decide)
 ·exact h
theorem rooti {v : Int} {c : Int} (h : Holds g c v .root) (hc : ((g.node v).kind==2)=true) : isI g v (0,0):=by
 rcases h with h | h
 ·exact h
 ·rw [show (g.node v).kind=8 from h] at hc; exact absurd hc (by decide)
theorem Holds.in_ {v c : Int} (h : Holds g c v .root) : v≤g.count:=h.elim isI.in_ isD.in_
theorem sm_root {t : Trie} {k k' : Int→I β} (hw : GW g) (ht : g.cty t.root=some .root) (hk : Ki g k k') : Sm (rootT t k) ((rootI t).bind k') g:=by
 refine .load .root ht fun g1 h1 hw1 v hv=>?_
 refine .nl hv.in_ (.nr hv.in_ (Sm.cc (fun h=>hk g1 h1 hw1 v (rooti hv h)) fun h=>?_))
 have hD:=rootv hv h
 refine .nr hD.in_ (.load .status (hw1.statC hD) fun g2 h2 hw2 s hs=>?_)
 have hD2:=hD.ge h2
 have hk2:=hk.ge (h1.trans h2)
 have ht2:=(h1.trans h2).cty ht
 by_cases h0 : s=0
 ·subst h0
  refine .nr hD2.in_ ?_
  rw [h2.node hD.in_]
  refine .cas .status (h2.cty (hw1.statC hD)) (.inr rfl) fun g3 h3 hw3 _ ok=>.nr (hD2.ge h3).in_ ?_
  rw [(h2.trans h3).node hD.in_]
  exact .load .status ((h2.trans h3).cty (hw1.statC hD)) fun g4 h4 hw4 s' hs'=>sm_won hw4 ((h3.trans h4).cty ht2) (hD2.ge (h3.trans h4)) (hk2.ge (h3.trans h4))
 ·refine Sm.tt (by simpa using h0) (Sm.rf (by simpa using h0) ?_)
  exact sm_won hw2 ht2 hD2 hk2
theorem sm_settle {t : Trie} {k k' : Int→I β} {i m : Int} {b : Lab} (hw : GW g) (ht : Tk g t) (hi : isI g i b) (hm : isM g m b) (hk : Kp g b k k') : Sm (settleT t i m k) ((settleI t i m).bind k') g:=by
 refine .nl hm.in_ (.nr hm.in_ (.load (.prev b) (hw.prevC hm) fun g1 h1 hw1 p hp=>?_))
 refine Sm.cc (fun h=>hk g1 h1 hw1 m (hm.ge h1)) fun h=>?_
 have h0 : p≠0:=by simpa using h
 have hi1:=hi.ge h1
 have hm1:=hm.ge h1
 rcases hp with hp | hp | ⟨hf,hp,hd⟩
 ·exact absurd hp h0
 ·exact .nl hp.in_ (.nr hp.in_ (Sm.cn (fun h=>absurd (hp.notMain.symm.trans h) (by decide)) fun _=>sm_back hw1 hi1 hp (hk.ge h1)))
 ·refine .nl hp.in_ (.nr hp.in_ (Sm.cn (fun _=>?_) fun h=>absurd (hp.1.symm.trans h) (by decide)))
  refine Sm.cc (fun h=>?_) fun h=>?_
  ·exact sm_fail hw1 hi1 hm1 hp (by rw [h1.node hm.in_]) hf (hk.ge h1)
  ·refine Sm.as (sm_root hw1 ((ht.ge h1).root h) fun g2 h2 hw2 r hr=>?_)
   have hi2:=hi1.ge h2
   have hm2:=hm1.ge h2
   have hf2 : p=g2.first (g.node m).prev:=by rw [h2.first hw1 (h1.cty (hw.prevC hm))]; exact hf
   refine .nl hr.in_ (.nl hi2.in_ (.nr hr.in_ (.nr hi2.in_ ?_)))
   dsimp only
   generalize ((g2.node r).gen==(g2.node i).gen)=c
   cases c with
   | true =>
    refine .nr hm2.in_ ?_
    rw [(h1.trans h2).node hm.in_]
    refine .cas (.prev b) ((h1.trans h2).cty (hw.prevC hm)) (.inl rfl) fun g3 h3 hw3 hd3 ok=>?_
    exact sm_last hw3 (hi2.ge h3) (hm2.ge h3) (by rw [((h1.trans h2).trans h3).node hm.in_]) (hd3 ⟨b,rfl⟩ hf2) (hk.ge ((h1.trans h2).trans h3))
   | false=>exact sm_fail hw2 hi2 hm2 (hp.ge h2) (by rw [(h1.trans h2).node hm.in_]) hf2 (hk.ge (h1.trans h2))
theorem sm_read {t : Trie} {k k' : Int→I β} {i : Int} {b : Lab} (hw : GW g) (ht : Tk g t) (hi : isI g i b) (hk : Kp g b k k') : Sm (readT t i k) ((readI t i).bind k') g :=
 .nl hi.in_ (.nr hi.in_ (.load (.main b) (hw.mainC hi) fun g1 h1 hw1 m hm=>sm_settle hw1 (ht.ge h1) (hi.ge h1) hm (hk.ge h1)))
abbrev Kb (g : Ga) (k : Bool→I β) (k' : Bool→I β) : Prop:=∀ g',Ge g g'→GW g'→∀ c,Sm (k c) (k' c) g'
theorem Kb.ge {k k' : Bool→I β} {g' : Ga} (h : Kb g k k') (hg : Ge g g') : Kb g' k k':=fun g2 h2 hw r=>h g2 (hg.trans h2) hw r
theorem sm_swap {t : Trie} {k k' : Bool→I β} {i o n : Int} {b : Lab} (hw : GW g) (ht : Tk g t) (hi : isI g i b) (hn : isM g n b) (hk : Kb g k k') : Sm (swapT t i o n k) ((gcasI t i o n).bind k') g:=by
 refine .nl hi.in_ (.nr hi.in_ (.cas (.main b) (hw.mainC hi) hn fun g1 h1 hw1 _ ok=>?_))
 refine Sm.cn (fun h=>?_) fun h=>hk g1 h1 hw1 false
 exact Sm.as (sm_settle hw1 (ht.ge h1) (hi.ge h1) (hn.ge h1) fun g2 h2 hw2 r hr=>hk g2 (h1.trans h2) hw2 _)
theorem sm_dec {t : Trie} {k : I β} {k' : Unit→I β} {v : Int} {d : Node} (hw : GW g) (ht : Tk g t) (hv : isD g v) (hd : d=g.node v) (hk : ∀ g',Ge g g'→GW g'→Sm k (k' ()) g') : Sm (decT t d k) ((decideI t v).bind k') g:=by
 subst hd
 have hD:=(hw.ofD hv).d hv
 refine .nr hv.in_ (Sm.as (sm_read hw ht hD.1 fun g1 h1 hw1 m hm=>.nr (hv.ge h1).in_ ?_))
 rw [h1.node hv.in_]
 refine Sm.cc (fun h=>.nr (hv.ge h1).in_ ?_) fun h=>.nr (hv.ge h1).in_ ?_
 ·rw [h1.node hv.in_]
  exact .cas .status (h1.cty (hw.statC hv)) (.inl rfl) fun g2 h2 hw2 _ ok=>hk g2 (h1.trans h2) hw2
 ·rw [h1.node hv.in_]
  exact .cas .status (h1.cty (hw.statC hv)) (.inr rfl) fun g2 h2 hw2 _ ok=>hk g2 (h1.trans h2) hw2
theorem sm_help {t : Trie} {k k' : Int→I β} (hw : GW g) (ht : Tk g t) (hk : Ki g k k') : Sm (helpT t k) ((helpI t).bind k') g:=by
 cases hro : t.readOnly with
 | true =>
  refine .load .fixed (ht.fixed hro) fun g1 h1 hw1 v hv=>?_
  have hv : isI g1 v (0,0):=hv
  exact .nl hv.in_ (.nr hv.in_ (Sm.cc (fun h=>hk g1 h1 hw1 v hv) fun h=>absurd h (by rw [hv.1]; decide)))
 | false =>
 refine .load .root (ht.root hro) fun g1 h1 hw1 v hv=>?_
 refine .nl hv.in_ (.nr hv.in_ (Sm.cc (fun h=>hk g1 h1 hw1 v (rooti hv h)) fun h=>?_))
 have hD:=rootv hv h
 refine .nr hD.in_ (.load .status (hw1.statC hD) fun g2 h2 hw2 s hs=>?_)
 have hD2:=hD.ge h2
 have hk2:=hk.ge (h1.trans h2)
 have ht2:=ht.ge (h1.trans h2)
 by_cases h0 : s=0
 ·subst h0
  refine Sm.as (sm_dec hw2 ht2 hD2 (by rw [h2.node hD.in_]) fun g3 h3 hw3=>.nr (hD2.ge h3).in_ ?_)
  rw [(h2.trans h3).node hD.in_]
  exact .load .status ((h2.trans h3).cty (hw1.statC hD)) fun g4 h4 hw4 s' hs'=>sm_won hw4 ((ht2.ge (h3.trans h4)).root hro) (hD2.ge (h3.trans h4)) (hk2.ge (h3.trans h4))
 ·refine Sm.tt (by simpa using h0) (Sm.rf (by simpa using h0) ?_)
  exact sm_won hw2 (ht2.root hro) hD2 hk2
theorem sm_replace {t : Trie} {k k' : Bool→I β} {o e n : Int} (hw : GW g) (ht : Tk g t) (hro : t.readOnly=false) (ho : isI g o (0,0)) (he : isM g e (0,0)) (hn : isI g n (0,0)) (hk : Kb g k k') : Sm (replaceT t o e n k) ((rdcssI t o e n).bind k') g:=by
 refine .alloc (0,0) (ok_desc ho he hn) ⟨(fun h=>by cases h),(fun h=>by cases h),fun _=>rfl⟩ fun h1 hw1=>?_
 have hD : isD (g.alloc { kind:=8,old:=o,expected:=e,new:=n } 0 (0,0)) (g.nodes.length+3):=alloc_isD rfl
 refine .nl hD.in_ (.cas .root ((ht.ge h1).root hro) (.inr hD) fun g2 h2 hw2 _ ok=>?_)
 refine Sm.cn (fun h=>?_) fun h=>hk g2 (h1.trans h2) hw2 false
 refine Sm.as (sm_dec hw2 (ht.ge (h1.trans h2)) (hD.ge h2) (h2.node hD.in_).symm fun g3 h3 hw3=>.nr (hD.ge (h2.trans h3)).in_ ?_)
 rw [(h2.trans h3).node hD.in_]
 refine .load .status ((h2.trans h3).cty (hw1.statC hD)) fun g4 h4 hw4 s hs=>?_
 have:=sm_won (s:=s) (k:=fun _=>k (s==1)) (k':=fun _=>k' (s==1)) hw4 ((ht.ge (h1.trans (h2.trans (h3.trans h4)))).root hro) (hD.ge (h2.trans (h3.trans h4))) fun g5 h5 hw5 r hr=>hk g5 ((h1.trans (h2.trans (h3.trans h4))).trans h5) hw5 _
 unfold wonI at this
 rw [I.bind_assoc] at this ⊢
 exact this
end Go.Ct
end
