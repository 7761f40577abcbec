/- Parts of a proof: Rv, Ru. -/
import Derived.Test.YtmliojdkmfhmmaaGreatW18
import Derived.Test.YtmliojdkmfhmmaaGreatW11
set_option linter.unusedVariables false
set_option linter.unusedSimpArgs false
set_option maxRecDepth 100000
set_option maxHeartbeats 4000000
section
namespace Go.Ct
theorem keyEq_eq {a b : ByteArray} (h : keyEq a b=true) : a=b:=by
 unfold keyEq at h
 rw [toList_data,toList_data,beq_iff_eq] at h
 exact ByteArray.ext (Array.toList_inj.1 h)
theorem pairsEq_eq : ∀ {a b : List Pair},pairsEq a b=true→a=b
 | [],[],_=>rfl
 | [],_::_,h=>by cases h
 | _::_,[],h=>by cases h
 | x::a,y::b,h=>by
  rw [pairsEq,Bool.and_eq_true] at h
  have h1:=h.1
  unfold pairEq at h1
  rw [Bool.and_eq_true,beq_iff_eq] at h1
  rw [pairsEq_eq h.2]
  congr 1
  cases x; cases y
  simp only at h1
  rw [keyEq_eq h1.1,h1.2]
theorem nodeEq_eq {a b : Node} (h : nodeEq a b=true) : a=b:=by
 unfold nodeEq at h
 simp only [Bool.and_eq_true,beq_iff_eq] at h
 obtain ⟨⟨⟨⟨⟨⟨⟨h1,h2⟩,h3⟩,h4⟩,h5⟩,h6⟩,h7⟩,h8,h9,h10,h11,h12,h13,h14⟩:=h
 have h6:=keyEq_eq h6
 have h9:=pairsEq_eq h9
 cases a; cases b
 simp only at *
 subst h1 h2 h3 h4 h5 h6 h7 h8 h9 h10 h11 h12 h13 h14
 rfl
theorem valid_only {n : Node} (h : n.valid=true) : n=n.only:=by
 unfold Node.valid at h
 split at h
 ·cases h
 ·rename_i hc
  simp only [not_or,Bool.not_eq_false] at hc
  exact nodeEq_eq hc.2.2.1
theorem valid_kind {n : Node} (h : n.valid=true) : 1≤n.kind∧n.kind≤8:=by
 unfold Node.valid at h
 split at h
 ·cases h
 ·rename_i hc; omega
def Node.stored (n : Node) (c : Int) : Node :=
 if n.kind=2 then { n.bare with main:=c } else if n.isMain=true then { n.bare with prev:=c } else if n.kind=8 then { n.bare with status:=c } else n.bare
theorem stored_kind (n : Node) (c : Int) : (n.stored c).kind=n.kind:=by
  unfold Node.stored; repeat' split
  all_goals rfl
theorem stored_valid {n : Node} (h : n.valid=true) {c : Int} (hc : 0≤c) : (n.stored c).valid=true:=by
 have hk:=valid_kind h
 rcases (show n.kind=1∨n.kind=2∨n.kind=3∨n.kind=4∨n.kind=5∨n.kind=6∨n.kind=7∨n.kind=8 by omega) with hk | hk | hk | hk | hk | hk | hk | hk
 ·rw [show n.stored c=n.bare by unfold Node.stored Node.isMain; simp [hk]]; exact bare_valid h
 ·rw [show n.stored c={ n.bare with main:=c } by unfold Node.stored; simp [hk]]
  unfold Node.valid at h ⊢
  simp only [Node.bare,Node.only,nodeEq,hk] at h ⊢
  simp at h ⊢
  simp_all
 ·rw [show n.stored c={ n.bare with prev:=c } by unfold Node.stored Node.isMain; simp [hk]]; exact valid_prev n c hc (.inl hk) h
 ·rw [show n.stored c=n.bare by unfold Node.stored Node.isMain; simp [hk]]; exact bare_valid h
 ·rw [show n.stored c={ n.bare with prev:=c } by unfold Node.stored Node.isMain; simp [hk]]
  unfold Node.valid at h ⊢
  simp only [Node.bare,Node.only,nodeEq,hk] at h ⊢
  simp at h ⊢
  simp_all
 ·rw [show n.stored c={ n.bare with prev:=c } by unfold Node.stored Node.isMain; simp [hk]]; exact valid_prev n c hc (.inr hk) h
 ·rw [show n.stored c=n.bare by unfold Node.stored Node.isMain; simp [hk]]; exact bare_valid h
 ·rw [show n.stored c={ n.bare with status:=c } by unfold Node.stored Node.isMain; simp [hk]]
  unfold Node.valid at h ⊢
  simp only [Node.bare,Node.only,nodeEq,hk] at h ⊢
  simp at h ⊢
  simp_all
theorem stored_fit {L : Nat} {n : Node} (h : n.Fit L) {c : Int} (hc : 0≤c) : (n.stored c).Fit L:=by
 have:=fits_kept' h c hc
 unfold Node.stored; simpa using this
theorem alloc_nodes (g : Ga) (n : Node) (i : Int) (b : Lab) : (g.alloc n i b).nodes=g.nodes ++ [n.stored (g.ty.length+1)]:=by
 unfold Ga.alloc Node.stored
 repeat' split
 all_goals rfl
theorem alloc_lab (g : Ga) (n : Node) (i : Int) (b : Lab) : (g.alloc n i b).lab=g.lab ++ [b]:=by
 unfold Ga.alloc
 repeat' split
 all_goals rfl
theorem alloc_ty (g : Ga) (n : Node) (i : Int) (b : Lab) : (g.alloc n i b).ty=g.ty ++ (n.cellTy b).toList∧(g.alloc n i b).ini=g.ini ++ (n.cellTy b).toList.map fun _=>i:=by
 unfold Ga.alloc Node.cellTy
 repeat' split
 all_goals simp [Ga.cell,Ga.put]
theorem alloc_rest (g : Ga) (n : Node) (i : Int) (b : Lab) : (g.alloc n i b).gen=g.gen∧(g.alloc n i b).dec=g.dec:=by
 unfold Ga.alloc
 repeat' split
 all_goals exact ⟨rfl,rfl⟩
theorem Ga.alloc_ge {g : Ga} (h : GW g) (n : Node) (i : Int) (b : Lab) : Ge g (g.alloc n i b) :=
 ⟨by rw [alloc_nodes]; exact List.prefix_append _ _,by rw [alloc_lab]; exact List.prefix_append _ _,by rw [(alloc_ty g n i b).1]; exact List.prefix_append _ _,by rw [(alloc_ty g n i b).2]; exact List.prefix_append _ _,by rw [(alloc_rest g n i b).1]; exact Nat.le_refl _,fun c h=>by rw [(alloc_rest g n i b).2]; exact h,h.lab⟩
theorem Ga.cell_ge {g : Ga} (h : GW g) (τ : CellTy) (i : Int) : Ge g (g.cell τ i) :=⟨List.prefix_refl _,List.prefix_refl _,List.prefix_append _ _,List.prefix_append _ _,Nat.le_refl _,fun _ h=>h,h.lab⟩
theorem Ga.gen_ge {g : Ga} (h : GW g) : Ge g g.newGen :=⟨List.prefix_refl _,List.prefix_refl _,List.prefix_refl _,List.prefix_refl _,Nat.le_succ _,fun _ h=>h,h.lab⟩
theorem NodeOk.ge {g g' : Ga} {n : Node} {b : Lab} (h : NodeOk g n b) (k : Ge g g') : NodeOk g' n b :=
 ⟨h.valid,h.fit,h.lo,h.hi,fun hk=>⟨Int.le_trans (h.i hk).1 (by have:=k.gen; omega),(h.i hk).2⟩,fun hk=>⟨(h.c hk).1,(h.c hk).2.1,fun j hj=>((h.c hk).2.2 j hj).imp (fun h=>h.ge k) fun h=>h.ge k⟩,h.t,h.l,fun hk=>(h.f hk).ge k,fun hk=>⟨(h.d hk).1.ge k,(h.d hk).2.1.ge k,(h.d hk).2.2.ge k⟩⟩
theorem stored_main (n : Node) (c : Int) : (n.stored c).isMain=n.isMain:=by unfold Node.isMain; rw [stored_kind]
theorem stored_cellTy (n : Node) (c : Int) (b : Lab) : (n.stored c).cellTy b=n.cellTy b:=by
 unfold Node.cellTy; rw [stored_main,stored_kind]
theorem stored_has (n : Node) (c : Int) : (n.stored c).hasCell=n.hasCell:=by
 unfold Node.hasCell; rw [stored_main,stored_kind]
theorem blookup_stored {n : Node} (hv : n.valid=true) {c : Int} (hc : 0≤c) (k : Int) : blookup (n.stored c) k=blookup n k:=by
 have e : (n.stored c).branches=n.branches∧(n.stored c).bitmap=n.bitmap:=by
  unfold Node.stored; repeat' split
  all_goals exact ⟨rfl,rfl⟩
 have hi : (n.stored c).isC=n.isC:=by unfold Node.isC; rw [stored_kind,hv,stored_valid hv hc]
 unfold blookup; rw [hi,e.1,e.2]
theorem NodeOk.stored {g : Ga} {n : Node} {b : Lab} (h : NodeOk g n b) {c : Int} (hc : 0≤c) : NodeOk g (n.stored c) b:=by
 have e : (n.stored c).gen=n.gen∧(n.stored c).old=n.old∧(n.stored c).expected=n.expected∧(n.stored c).new=n.new∧(n.stored c).hash=n.hash:=by
  unfold Node.stored; repeat' split
  all_goals exact ⟨rfl,rfl,rfl,rfl,rfl⟩
 obtain ⟨L,hL⟩:=h.fit
 refine ⟨stored_valid h.valid hc,⟨L,stored_fit hL hc⟩,?_,?_,?_,?_,?_,?_,?_,?_⟩
 ·rw [stored_kind]; exact h.lo
 ·rw [stored_kind]; exact h.hi
 ·rw [stored_kind,e.1]; exact h.i
 ·rw [stored_kind]; intro hk; refine ⟨(h.c hk).1,(h.c hk).2.1,fun k=>?_⟩; rw [blookup_stored h.valid hc]; exact (h.c hk).2.2 k
 ·rw [stored_kind,e.2.2.2.2]; exact h.t
 ·rw [stored_kind,e.2.2.2.2]; exact h.l
 ·rw [stored_kind,e.2.1]; exact h.f
 ·rw [stored_kind,e.2.1,e.2.2.1,e.2.2.2.1]; exact h.d
theorem stored_cell {n : Node} {c : Int} (h : n.hasCell=true) : (n.stored c).cellOf=c:=by
 unfold Node.hasCell at h
 unfold Node.stored Node.cellOf
 repeat' split
 all_goals simp_all [Node.bare]
theorem cellTy_has {n : Node} {b : Lab} {τ : CellTy} (h : n.cellTy b=some τ) : n.hasCell=true:=by
 unfold Node.cellTy at h
 unfold Node.hasCell
 repeat' split at h
 all_goals first
  | (cases h; done)
  | simp_all
theorem has_cellTy {n : Node} (b : Lab) (h : n.hasCell=true) : ∃ τ,n.cellTy b=some τ:=by
 unfold Node.hasCell at h
 unfold Node.cellTy
 repeat' split
 all_goals first
  | exact ⟨_,rfl⟩
  | simp_all
theorem cty_lt {g : Ga} {c : Int} {τ : CellTy} (h : g.cty c=some τ) : 1≤c∧c≤g.ty.length:=by
 unfold Ga.cty at h
 split at h
 ·cases h
 ·have:=(List.getElem?_eq_some_iff.1 h).1; omega
theorem alloc_cty {g : Ga} {n : Node} {i : Int} {b : Lab} {τ : CellTy} (h : n.cellTy b=some τ) : (g.alloc n i b).cty (g.ty.length+1)=some τ:=by
 unfold Ga.cty
 rw [if_neg (by omega),(alloc_ty g n i b).1,h]
 simp
theorem zip_alloc {g : Ga} (h : GW g) (n : Node) (i : Int) (b : Lab) : (g.alloc n i b).zip=g.zip ++ [(n.stored (g.ty.length+1),b)]:=by
 unfold Ga.zip; rw [alloc_nodes,alloc_lab,List.zip_append h.lab.symm]; rfl
theorem mem_zip {g : Ga} (h : GW g) {n : Node} (hn : n ∈ g.nodes) : ∃ b,(n,b) ∈ g.zip:=by
 obtain ⟨i,hi,rfl⟩:=List.getElem_of_mem hn
 have hl:=h.lab
 have hz : i<(g.nodes.zip g.lab).length:=by rw [List.length_zip]; omega
 refine ⟨g.lab[i]'(by omega),?_⟩
 have:=List.getElem_mem hz
 rw [List.getElem_zip] at this
 exact this
theorem alloc_gw {g : Ga} (h : GW g) {n : Node} {i : Int} {b : Lab} (hn : NodeOk g n b) : GW (g.alloc n i b):=by
 have hge:=Ga.alloc_ge h n i b
 have hs : NodeOk (g.alloc n i b) (n.stored (g.ty.length+1)) b:=(hn.ge hge).stored (by omega)
 have hz:=zip_alloc h n i b
 refine ⟨?_,?_,?_,?_,?_,?_,?_,?_⟩
 ·intro m hm
  rw [hz,List.mem_append,List.mem_singleton] at hm
  rcases hm with hm | rfl
  ·exact (h.node m hm).ge hge
  ·exact hs
 ·intro m hm τ hτ
  rw [hz,List.mem_append,List.mem_singleton] at hm
  rcases hm with hm | rfl
  ·exact hge.cty (h.cell m hm τ hτ)
  ·dsimp only at hτ ⊢
   rw [stored_cellTy] at hτ
   rw [stored_cell (cellTy_has hτ)]; exact alloc_cty hτ
 ·intro m hm hk
  rw [hz,List.mem_append,List.mem_singleton] at hm
  rcases hm with hm | rfl
  ·exact h.main m hm hk
  ·dsimp only at hk ⊢
   rw [stored_kind] at hk
   unfold Node.stored Node.cellOf; rw [if_pos hk]; simp [Node.bare]
 ·intro m hm hk
  rw [hz,List.mem_append,List.mem_singleton] at hm
  rcases hm with hm | rfl
  ·exact h.prev m hm hk
  ·dsimp only at hk ⊢
   rw [stored_main] at hk
   have h2 : n.kind≠2:=fun h2=>by unfold Node.isMain at hk; rw [h2] at hk; simp at hk
   unfold Node.stored Node.cellOf; rw [if_neg h2,if_pos hk]; simp [Node.bare]
 ·intro m hm hk
  rw [hz,List.mem_append,List.mem_singleton] at hm
  rcases hm with hm | rfl
  ·exact h.status m hm hk
  ·dsimp only at hk ⊢
   rw [stored_kind] at hk
   unfold Node.stored Node.cellOf; rw [if_neg (by omega),if_neg (by unfold Node.isMain; rw [hk]; decide),if_pos hk]; simp [Node.bare]
 ·rw [alloc_nodes,List.filter_append,List.pairwise_append]
  refine ⟨h.sort,?_,?_⟩
  ·rw [List.filter_cons]; split <;> simp
  ·intro a ha c hc
   rw [List.mem_filter] at ha hc
   rw [List.mem_singleton] at hc
   obtain ⟨rfl,hc⟩:=hc
   obtain ⟨la,hla⟩:=mem_zip h ha.1
   obtain ⟨τ,hτ⟩:=has_cellTy la ha.2
   have:=cty_lt (h.cell _ hla τ hτ)
   rw [stored_has] at hc
   rw [stored_cell hc]; dsimp only at this; omega
 ·rw [(alloc_ty g n i b).1,(alloc_ty g n i b).2,List.length_append,List.length_append,List.length_map,h.len]
 ·rw [alloc_lab,alloc_nodes,List.length_append,List.length_append,h.lab]; rfl
theorem cell_gw {g : Ga} (h : GW g) (τ : CellTy) (i : Int) : GW (g.cell τ i):=by
 have hge:=Ga.cell_ge h τ i
 exact ⟨fun m hm=>(h.node m hm).ge hge,fun m hm τ hτ=>hge.cty (h.cell m hm τ hτ),h.main,h.prev,h.status,h.sort,by simp [Ga.cell,h.len],h.lab⟩
theorem gen_gw {g : Ga} (h : GW g) : GW g.newGen:=by
 have hge:=Ga.gen_ge h
 exact ⟨fun m hm=>(h.node m hm).ge hge,fun m hm τ hτ=>hge.cty (h.cell m hm τ hτ),h.main,h.prev,h.status,h.sort,h.len,h.lab⟩
theorem cty_last (g : Ga) (τ : CellTy) (i : Int) : (g.cell τ i).cty (g.ty.length+1)=some τ:=by
 unfold Ga.cty Ga.cell
 rw [if_neg (by omega)]
 simp
theorem alloc_node (g : Ga) (n : Node) (i : Int) (b : Lab) : (g.alloc n i b).node (g.nodes.length+3)=n.stored (g.ty.length+1):=by
 rw [node_eq,alloc_nodes,List.length_append,List.length_singleton,if_neg (by omega),if_neg (by omega),List.getD_eq_getElem?_getD]
 have : ((g.nodes.length : Int)+3).toNat - 3=g.nodes.length:=by omega
 rw [this,List.getElem?_append_right (Nat.le_refl _)]
 simp
theorem alloc_label {g : Ga} (h : GW g) (n : Node) (i : Int) (b : Lab) : (g.alloc n i b).label (g.nodes.length+3)=b:=by
 unfold Ga.label
 have : ((g.nodes.length : Int)+3).toNat - 3=g.nodes.length:=by omega
 rw [this,alloc_lab,List.getD_eq_getElem?_getD,List.getElem?_append_right (by rw [h.lab]; exact Nat.le_refl _),h.lab]
 simp
theorem alloc_kind (g : Ga) (n : Node) (i : Int) (b : Lab) : ((g.alloc n i b).node (g.nodes.length+3)).kind=n.kind:=by rw [alloc_node,stored_kind]
theorem alloc_isI {g : Ga} (hw : GW g) {n : Node} {i : Int} {b : Lab} (h : n.kind=2) : isI (g.alloc n i b) (g.nodes.length+3) b :=⟨by rw [alloc_kind,h],alloc_label hw n i b⟩
theorem alloc_isS {g : Ga} {n : Node} {i : Int} {b b' : Lab} (h : n.kind=4) (hh : n.hash % 64 ^ b.1=b.2) : isS (g.alloc n i b') (g.nodes.length+3) b:=by
 refine ⟨by rw [alloc_kind,h],?_⟩
 rw [alloc_node]
 have e : (n.stored (g.ty.length+1)).hash=n.hash:=by
  unfold Node.stored; repeat' split
  all_goals rfl
 rw [e]; exact hh
theorem alloc_isF {g : Ga} (hw : GW g) {n : Node} {i : Int} {b : Lab} (h : n.kind=7) : isF (g.alloc n i b) (g.nodes.length+3) b :=⟨by rw [alloc_kind,h],alloc_label hw n i b⟩
theorem alloc_isD {g : Ga} {n : Node} {i : Int} {b : Lab} (h : n.kind=8) : isD (g.alloc n i b) (g.nodes.length+3):=by unfold isD; rw [alloc_kind,h]
theorem alloc_isM {g : Ga} (hw : GW g) {n : Node} {i : Int} {b : Lab} (h : n.isMain=true) : isM (g.alloc n i b) (g.nodes.length+3) b :=⟨by rw [alloc_node,stored_main,h],alloc_label hw n i b⟩
end Go.Ct
end
section
namespace Go.Ct
def bat (n : Node) (i r : Int) (k : Nat) : Int × Bool:=if (k : Int)=i then (r,decide (r>0)) else blookup n k
def bbuild (n : Node) (i r : Int) : Nat→Nat × List Int
 | 0=>(0,[])
 | k+1=>bif (bat n i r k).2 then (Bm.withE (bbuild n i r k).1 k,(bbuild n i r k).2 ++ [(bat n i r k).1]) else bbuild n i r k
theorem bbuild_lt (n : Node) (i r : Int) : ∀ k,(bbuild n i r k).1<18446744073709551616∧(bbuild n i r k).2.length≤k
 | 0=>⟨by show (0 : Nat)<_; decide,Nat.le_refl _⟩
 | k+1=>by
  obtain ⟨h1,h2⟩:=bbuild_lt n i r k
  rw [bbuild]
  cases (bat n i r k).2 with
  | true=>exact ⟨Bm.withE_lt _ _ h1,by simp; omega⟩
  | false=>exact ⟨h1,by show (bbuild n i r k).2.length≤k+1; omega⟩
theorem bbuild_of (n : Node) (i r : Int) (nb : Nat) (bl : List Int) (hl : bl.length=Bm.pop 64 nb) (hat : ∀ k,k<64→(bat n i r k).2=nb.testBit k∧(nb.testBit k=true→(bat n i r k).1=bl.getD (Bm.pop k nb) 0)) :
  ∀ k,k≤64→(∀ j,(bbuild n i r k).1.testBit j=(decide (j<k) && nb.testBit j))∧(bbuild n i r k).2=bl.take (Bm.pop k nb)
 | 0,_=>⟨fun j=>by simp [bbuild],by simp [bbuild,Bm.pop]⟩
 | k+1,hk=>by
  obtain ⟨h1,h2⟩:=bbuild_of n i r nb bl hl hat k (by omega)
  obtain ⟨g1,g2⟩:=hat k (by omega)
  rw [bbuild,g1,Bm.pop_testBit]
  cases hb : nb.testBit k with
  | true =>
   have hlt : Bm.pop k nb<bl.length:=by
    rw [hl]
    have:=pop_le_pop' (63 - k) (k+1) nb
    rw [show k+1+(63 - k)=64 by omega,Bm.pop_testBit,hb] at this
    simp at this; omega
   refine ⟨fun j=>?_,?_⟩
   ·show (Bm.withE (bbuild n i r k).1 k).testBit j=_
    rw [Bm.testBit_withE _ k (by omega),h1]
    by_cases hj : k=j
    ·subst hj; simp [hb]
    ·by_cases hjk : j<k
     ·simp [hj,hjk,show j<k+1 by omega]
     ·simp [hj,hjk,show ¬ j<k+1 by omega]
   ·show (bbuild n i r k).2 ++ [(bat n i r k).1]=_
    rw [h2,g2 hb,show (Bm.pop k nb+true.toNat)=Bm.pop k nb+1 from rfl,List.take_succ_eq_append_getElem hlt,List.getD_eq_getElem?_getD,List.getElem?_eq_getElem hlt]; rfl
  | false =>
   refine ⟨fun j=>?_,?_⟩
   ·show (bbuild n i r k).1.testBit j=_
    rw [h1]
    by_cases hj : k=j
    ·subst hj; simp [hb]
    ·by_cases hjk : j<k
     ·simp [hjk,show j<k+1 by omega]
     ·simp [hjk,show ¬ j<k+1 by omega]
   ·show (bbuild n i r k).2=_
    rw [h2]; rfl
theorem bbuild_all {n : Node} {i r : Int} {nb : Nat} {bl : List Int} (hn : nb<18446744073709551616) (hl : bl.length=Bm.pop 64 nb) (hat : ∀ k,k<64→(bat n i r k).2=nb.testBit k∧(nb.testBit k=true→(bat n i r k).1=bl.getD (Bm.pop k nb) 0)) :
  bbuild n i r 64=(nb,bl):=by
 obtain ⟨h1,h2⟩:=bbuild_of n i r nb bl hl hat 64 (Nat.le_refl _)
 refine Prod.ext ?_ ?_
 ·refine Nat.eq_of_testBit_eq fun j=>?_
  rw [h1]
  by_cases hj : j<64
  ·simp [hj]
  ·have : nb.testBit j=false:=Nat.testBit_lt_two_pow (Nat.lt_of_lt_of_le hn (by rw [show 18446744073709551616=2 ^ 64 from rfl]; exact Nat.pow_le_pow_right (by decide) (by omega)))
   simp [hj,this]
 ·rw [h2,← hl,List.take_of_length_le (Nat.le_refl _)]
theorem blookup_at {n : Node} (hc : n.isC=true) {k : Nat} (hk : k<64) : blookup n k=if n.bitmap.testBit k then (n.branches.getD (Bm.pop k n.bitmap) 0,true) else (0,false):=by
 unfold blookup
 rw [Bm.has_nat _ _ hk,hc]
 have e : Bm.position n.bitmap (k : Int)=Bm.pop k n.bitmap:=by
  unfold Bm.position Bm.cut
  by_cases h0 : k=0
  ·subst h0; simp
  ·rw [if_neg (by omega),if_neg (by omega)]; simp
 rw [e]
 cases n.bitmap.testBit k <;> simp
theorem pos_nat {b : Nat} {i : Nat} (hi : i<64) : Bm.position b (i : Int)=Bm.pop i b:=by
 unfold Bm.position Bm.cut
 by_cases h0 : i=0
 ·subst h0; simp
 ·rw [if_neg (by omega),if_neg (by omega)]; simp
theorem pop_mono {b : Nat} : ∀ {i k : Nat},i≤k→Bm.pop i b≤Bm.pop k b:=fun {i k} h=>by
 have:=pop_le_pop' (k - i) i b
 rwa [show i+(k - i)=k by omega] at this
theorem pop_bit {b i k : Nat} (h : b.testBit i=true) (hk : i<k) : Bm.pop i b<Bm.pop k b:=by
 have h1 : Bm.pop (i+1) b=Bm.pop i b+1:=by rw [Bm.pop_testBit,h]; rfl
 have:=pop_mono (b:=b) (show i+1≤k by omega)
 omega
theorem C_facts {n : Node} (hc : n.isC=true) : n.branches.length=Bm.pop 64 n.bitmap:=(branches_pos hc).2
theorem build_updated {n : Node} {i r : Int} (hf : n.bitmap<18446744073709551616) (h : (blookup n i).2=true) (hr : 1≤r) : (pupdated n i r)=({ kind:=3,bitmap:=(bbuild n i r 64).1,branches:=(bbuild n i r 64).2 },true):=by
 have hc : n.isC=true:=by
  unfold blookup at h; split at h
  ·cases h
  ·rename_i q; simp at q; exact q.1
 have hh : Bm.has n.bitmap i=true:=by
  unfold blookup at h; split at h
  ·cases h
  ·rename_i q; simp at q; exact q.2
 have hi : 0≤i∧i<64:=by unfold Bm.has at hh; simp at hh; omega
 obtain ⟨j,rfl⟩:=Int.eq_ofNat_of_zero_le hi.1
 have hj : j<64:=by omega
 have hb : n.bitmap.testBit j=true:=by rw [← Bm.has_nat _ _ hj]; exact hh
 have hl:=C_facts hc
 have hp : Bm.pop j n.bitmap<n.branches.length:=by rw [hl]; exact pop_bit hb hj
 unfold pupdated
 rw [if_neg (by simp [hc,hh]; omega),pos_nat hj]
 rw [bbuild_all (nb:=n.bitmap) (bl:=n.branches.take (Bm.pop j n.bitmap) ++ r::n.branches.drop (Bm.pop j n.bitmap+1)) hf (by simp; omega)]
 intro k hk
 unfold bat
 by_cases e : (k : Int)=(j : Int)
 ·have e : k=j:=by omega
  subst e
  rw [if_pos rfl,hb]
  refine ⟨by simp; omega,fun _=>?_⟩
  rw [List.getD_eq_getElem?_getD,List.getElem?_append_right (by rw [List.length_take]; omega),List.length_take,Nat.min_eq_left (by omega),Nat.sub_self]; rfl
 ·rw [if_neg e,blookup_at hc hk]
  cases hbk : n.bitmap.testBit k with
  | false=>exact ⟨rfl,fun h=>by cases h⟩
  | true =>
   refine ⟨rfl,fun _=>?_⟩
   show n.branches.getD (Bm.pop k n.bitmap) 0=_
   rw [List.getD_eq_getElem?_getD,List.getD_eq_getElem?_getD]
   by_cases hkj : k<j
   ·have:=pop_bit hbk hkj
    rw [List.getElem?_append_left (by rw [List.length_take]; omega),List.getElem?_take,if_pos this]
   ·have:=pop_bit hb (show j<k by omega)
    rw [List.getElem?_append_right (by rw [List.length_take]; omega),List.length_take,Nat.min_eq_left (by omega)]
    obtain ⟨d,hd⟩ : ∃ d,Bm.pop k n.bitmap=Bm.pop j n.bitmap+1+d :=⟨Bm.pop k n.bitmap - Bm.pop j n.bitmap - 1,by omega⟩
    rw [hd,show Bm.pop j n.bitmap+1+d - Bm.pop j n.bitmap=d+1 by omega,List.getElem?_cons_succ,List.getElem?_drop]
theorem build_inserted {n : Node} {i r : Int} (hf : n.bitmap<18446744073709551616) (hc : n.isC=true) (h : (blookup n i).2=false) (h0 : 0≤i) (h1 : i≤63) (hr : 1≤r) : (pinserted n i r)=({ kind:=3,bitmap:=(bbuild n i r 64).1,branches:=(bbuild n i r 64).2 },true):=by
 obtain ⟨j,rfl⟩:=Int.eq_ofNat_of_zero_le h0
 have hj : j<64:=by omega
 have hb : n.bitmap.testBit j=false:=by
  rw [blookup_at hc hj] at h
  cases hb : n.bitmap.testBit j with
  | false=>rfl
  | true=>rw [hb] at h; cases h
 have hh : Bm.has n.bitmap (j : Int)=false:=by rw [Bm.has_nat _ _ hj]; exact hb
 have hl:=C_facts hc
 have hpw:=Bm.pop_withE n.bitmap j hj
 have hpl : Bm.pop j n.bitmap≤n.branches.length:=by rw [hl]; exact pop_mono (by omega)
 unfold pinserted
 rw [if_neg (by simp [hc,hh]; omega),pos_nat hj]
 rw [bbuild_all (nb:=Bm.withE n.bitmap j) (bl:=n.branches.take (Bm.pop j n.bitmap) ++ r::n.branches.drop (Bm.pop j n.bitmap)) (Bm.withE_lt _ _ hf) (by rw [hpw,if_pos ⟨hj,hb⟩]; simp; omega)]
 intro k hk
 unfold bat
 rw [Bm.testBit_withE _ j hj]
 by_cases e : (k : Int)=(j : Int)
 ·have e : k=j:=by omega
  subst e
  rw [if_pos rfl]
  refine ⟨by simp; omega,fun _=>?_⟩
  rw [hpw,if_neg (by omega),List.getD_eq_getElem?_getD,List.getElem?_append_right (by rw [List.length_take]; omega),List.length_take,Nat.min_eq_left (by omega),Nat.add_zero,Nat.sub_self]; rfl
 ·rw [if_neg e,blookup_at hc hk]
  cases hbk : n.bitmap.testBit k with
  | false=>exact ⟨by simp; omega,fun h=>by simp at h; omega⟩
  | true =>
   refine ⟨by simp,fun _=>?_⟩
   show n.branches.getD (Bm.pop k n.bitmap) 0=_
   rw [List.getD_eq_getElem?_getD,List.getD_eq_getElem?_getD,hpw]
   by_cases hkj : k<j
   ·have:=pop_bit hbk hkj
    rw [if_neg (by omega),List.getElem?_append_left (by rw [List.length_take]; omega),Nat.add_zero,List.getElem?_take,if_pos this]
   ·have:=pop_mono (b:=n.bitmap) (show j≤k by omega)
    rw [if_pos ⟨by omega,hb⟩,List.getElem?_append_right (by rw [List.length_take]; omega),List.length_take,Nat.min_eq_left (by omega)]
    obtain ⟨d,hd⟩ : ∃ d,Bm.pop k n.bitmap=Bm.pop j n.bitmap+d :=⟨Bm.pop k n.bitmap - Bm.pop j n.bitmap,by omega⟩
    rw [hd,show Bm.pop j n.bitmap+d+1 - Bm.pop j n.bitmap=d+1 by omega,List.getElem?_cons_succ,List.getElem?_drop]
theorem pop_withoutE (b x : Nat) (hx : x<64) (hb : b.testBit x=true) : ∀ y,Bm.pop y b=Bm.pop y (Bm.withoutE b x)+if x<y then 1 else 0
 | 0=>by simp [Bm.pop]
 | y+1=>by
  rw [Bm.pop_testBit,Bm.pop_testBit,pop_withoutE b x hx hb y,Bm.testBit_withoutE b x hx]
  by_cases h1 : x<y
  ·simp [h1,show x<y+1 by omega,show x≠y by omega]; omega
  ·by_cases h2 : x=y
   ·subst h2; simp [hb]
   ·simp [h1,show ¬ x<y+1 by omega,h2]
theorem build_removed {n : Node} {i : Int} (hf : n.bitmap<18446744073709551616) (h : (blookup n i).2=true) : (premoved n i)=({ kind:=3,bitmap:=(bbuild n i 0 64).1,branches:=(bbuild n i 0 64).2 },true):=by
 have hc : n.isC=true:=by
  unfold blookup at h; split at h
  ·cases h
  ·rename_i q; simp at q; exact q.1
 have hh : Bm.has n.bitmap i=true:=by
  unfold blookup at h; split at h
  ·cases h
  ·rename_i q; simp at q; exact q.2
 have hi : 0≤i∧i<64:=by unfold Bm.has at hh; simp at hh; omega
 obtain ⟨j,rfl⟩:=Int.eq_ofNat_of_zero_le hi.1
 have hj : j<64:=by omega
 have hb : n.bitmap.testBit j=true:=by rw [← Bm.has_nat _ _ hj]; exact hh
 have hl:=C_facts hc
 have hp : Bm.pop j n.bitmap<n.branches.length:=by rw [hl]; exact pop_bit hb hj
 have hpw:=pop_withoutE n.bitmap j hj hb
 unfold premoved
 rw [if_neg (by simp [hc,hh]; omega),pos_nat hj]
 rw [bbuild_all (nb:=Bm.withoutE n.bitmap j) (bl:=n.branches.take (Bm.pop j n.bitmap) ++ n.branches.drop (Bm.pop j n.bitmap+1)) (Bm.withoutE_lt _ _ hf) (by have:=hpw 64; rw [if_pos hj] at this; simp; omega)]
 intro k hk
 unfold bat
 rw [Bm.testBit_withoutE _ j hj]
 by_cases e : (k : Int)=(j : Int)
 ·have e : k=j:=by omega
  subst e
  rw [if_pos rfl]
  exact ⟨by simp,fun h=>by simp at h⟩
 ·rw [if_neg e,blookup_at hc hk]
  cases hbk : n.bitmap.testBit k with
  | false=>exact ⟨by simp,fun h=>by simp at h⟩
  | true =>
   refine ⟨by simp; omega,fun _=>?_⟩
   show n.branches.getD (Bm.pop k n.bitmap) 0=_
   rw [List.getD_eq_getElem?_getD,List.getD_eq_getElem?_getD]
   have hk':=hpw k
   by_cases hkj : k<j
   ·have:=pop_bit hbk hkj
    rw [if_neg (by omega)] at hk'
    rw [List.getElem?_append_left (by rw [List.length_take]; omega),List.getElem?_take,if_pos (by omega)]
    congr 2
   ·have:=pop_bit hb (show j<k by omega)
    rw [if_pos (by omega)] at hk'
    rw [List.getElem?_append_right (by rw [List.length_take]; omega),List.length_take,Nat.min_eq_left (by omega),List.getElem?_drop]
    congr 2; omega
end Go.Ct
namespace Go.Ct
structure VF (n : Node) : Prop where
 kind : 1≤n.kind∧n.kind≤8
 main : 0≤n.main
 prev : 0≤n.prev
 status : 0≤n.status
 gen : n.kind=2→1≤n.gen
 count : n.kind=3→n.branches.length=Bm.pop 64 n.bitmap
 branch : n.kind=3→∀ k,k<n.branches.length→1≤n.branches.getD k 0
 key : n.kind=4∨n.kind=5→n.key.size≤64
 pairs : n.kind=6→2≤n.pairs.length
 sorted : n.kind=6→pairsValid n.pairs=true
 short : n.kind=6→keysShort n.pairs=true
 old : n.kind=7∨n.kind=8→1≤n.old
 desc : n.kind=8→1≤n.expected∧1≤n.new
theorem valid_vf {n : Node} (h : n.valid=true) : VF n:=by
 unfold Node.valid at h
 split at h
 ·cases h
 ·rename_i h0
  simp only [not_or,Bool.not_eq_false] at h0
  refine ⟨by omega,by omega,by omega,by omega,?_,?_,?_,?_,?_,?_,?_,?_,?_⟩
  ·intro hk; rw [if_pos hk] at h; exact of_decide_eq_true h
  ·intro hk; rw [if_neg (by omega),if_pos hk] at h; simp at h; exact h.2
  ·intro hk; rw [if_neg (by omega),if_pos hk] at h; simp at h
   intro k hlt
   rw [List.getD_eq_getElem?_getD,List.getElem?_eq_getElem hlt]; exact h.1 _ (List.getElem_mem hlt)
  ·intro hk; rw [if_neg (by omega),if_neg (by omega),if_pos hk] at h; exact of_decide_eq_true h
  ·intro hk; rw [if_neg (by omega),if_neg (by omega),if_neg (by omega),if_pos hk] at h; simp at h; exact h.1
  ·intro hk; rw [if_neg (by omega),if_neg (by omega),if_neg (by omega),if_pos hk] at h; simp at h; exact h.2.1
  ·intro hk; rw [if_neg (by omega),if_neg (by omega),if_neg (by omega),if_pos hk] at h; simp at h; exact h.2.2
  ·rintro (hk | hk)
   ·rw [if_neg (by omega),if_neg (by omega),if_neg (by omega),if_neg (by omega),if_pos hk] at h; exact of_decide_eq_true h
   ·rw [if_neg (by omega),if_neg (by omega),if_neg (by omega),if_neg (by omega),if_neg (by omega),if_pos hk] at h; simp at h; exact h.1
  ·intro hk; rw [if_neg (by omega),if_neg (by omega),if_neg (by omega),if_neg (by omega),if_neg (by omega),if_pos hk] at h; simp at h; exact h.2
theorem isC_no {n : Node} (h : (n.kind==3)=false) : n.isC=false:=by unfold Node.isC; rw [h]; rfl
theorem isC_yes {n : Node} (h : (n.kind==3)=true) (hv : n.valid=true) : n.isC=true:=by unfold Node.isC; rw [h,hv]; rfl
theorem isL_no {n : Node} (h : (n.kind==6)=false) : n.isL=false:=by unfold Node.isL; rw [h]; rfl
theorem isL_yes {n : Node} (h : (n.kind==6)=true) (hv : n.valid=true) : n.isL=true:=by unfold Node.isL; rw [h,hv]; rfl
theorem bl_no1 {n : Node} {i : Int} (h : n.isC=false) : blookup n i=(0,false):=by unfold blookup; rw [if_pos (.inl h)]
theorem bl_no2 {n : Node} {i : Int} (h : Bm.has n.bitmap i=false) : blookup n i=(0,false):=by unfold blookup; rw [if_pos (.inr h)]
theorem bl_yes {n : Node} {i : Int} (hc : n.isC=true) (h : Bm.has n.bitmap i=true) : blookup n i=(n.branches.getD (Bm.position n.bitmap i) 0,true):=by unfold blookup; rw [if_neg (by simp [hc,h])]
theorem bl_lt {n : Node} {i : Int} (hc : n.isC=true) (h : Bm.has n.bitmap i=true) : Bm.position n.bitmap i<n.branches.length:=by rw [C_facts hc]; exact pos_lt h
structure NF (n : Node) : Prop where
 br : n.branches.length≤1000000
 pr : n.pairs.length≤1000000000000
 bm : n.bitmap<18446744073709551616
 hs : n.hash<18446744073709551616
 ks : n.key.size≤64
 v3 : n.kind=3→n.valid=true
 v6 : n.kind=6→n.valid=true
theorem Node.Fit.nf {L : Nat} {n : Node} (h : n.Fit L) (hL : L≤900000000000) : NF n :=⟨h.1.1,by have:=h.1.2.1; omega,h.1.2.2.1,h.1.2.2.2.1,h.2,fun hk=>h.1.2.2.2.2.2.2 (.inl hk),fun hk=>h.1.2.2.2.2.2.2 (.inr hk)⟩
end Go.Ct
namespace Go.Ct
theorem bs_no1 {n : Node} (h : n.isC=false) : bsole n=(0,false):=by unfold bsole; rw [if_pos (.inl h)]
theorem bs_no2 {n : Node} (h : n.branches.length≠1) : bsole n=(0,false):=by unfold bsole; rw [if_pos (.inr h)]
theorem bs_yes {n : Node} (hc : n.isC=true) (h : n.branches.length=1) : bsole n=(n.branches.getD 0 0,true):=by unfold bsole; rw [if_neg (by simp [hc,h])]
theorem ut_no {n : Node} (h : n.kind≠5) : untombed n=({},false):=by unfold untombed; rw [if_neg h]
theorem ut_yes {n : Node} (h : n.kind=5) : untombed n=(singleOf n,true):=by unfold untombed; rw [if_pos h]
theorem ct_yes {n s : Node} {l : Int} (h : (bsole n).2=true) (hl : 0<l) (hk : s.kind=4) : contracted n l s=tombOf s:=by unfold contracted; rw [if_pos ⟨hl,h,hk⟩]
theorem ct_no1 {n s : Node} {l : Int} (h : (bsole n).2=false) : contracted n l s=n:=by unfold contracted; rw [if_neg (by rw [h]; simp)]
theorem ct_no2 {n s : Node} {l : Int} (h : ¬ 0<l) : contracted n l s=n:=by unfold contracted; rw [if_neg (fun x=>h x.1)]
theorem ct_no3 {n s : Node} {l : Int} (h : s.kind≠4) : contracted n l s=n:=by unfold contracted; rw [if_neg (fun x=>h x.2.2)]
end Go.Ct
namespace Go.Ct
def bnode (n : Node) (i r : Int) : Node:={ kind:=3,bitmap:=(bbuild n i r 64).1,branches:=(bbuild n i r 64).2 }
theorem bb_T1 {n : Node} {i r : Int} {k bm : Nat} {out : List Int} (he : (((k : Nat) : Int)==i)=true) (hr : decide ((r : Int)>0)=true) (hW : (bm,out)=bbuild n i r k) : (Bm.withE bm ((k : Nat) : Int),out ++ [r])=bbuild n i r (k+1):=by
 rw [bbuild]; unfold bat; rw [if_pos (eq_of_beq he),hr,← hW]; rfl
theorem bb_F1 {n : Node} {i r : Int} {k bm : Nat} {out : List Int} (he : (((k : Nat) : Int)==i)=true) (hr : decide ((r : Int)>0)=false) (hW : (bm,out)=bbuild n i r k) : (bm,out)=bbuild n i r (k+1):=by
 rw [bbuild]; unfold bat; rw [if_pos (eq_of_beq he),hr,← hW]; rfl
theorem bb_T2 {n : Node} {i r : Int} {k bm : Nat} {out : List Int} (he : (((k : Nat) : Int)==i)=false) (hr : (blookup n ((k : Nat) : Int)).2=true) (hW : (bm,out)=bbuild n i r k) : (Bm.withE bm ((k : Nat) : Int),out ++ [(blookup n ((k : Nat) : Int)).1])=bbuild n i r (k+1):=by
 rw [bbuild]; unfold bat; rw [if_neg (by simpa using he),hr,← hW]; rfl
theorem bb_F2 {n : Node} {i r : Int} {k bm : Nat} {out : List Int} (he : (((k : Nat) : Int)==i)=false) (hr : (blookup n ((k : Nat) : Int)).2=false) (hW : (bm,out)=bbuild n i r k) : (bm,out)=bbuild n i r (k+1):=by
 rw [bbuild]; unfold bat; rw [if_neg (by simpa using he),hr,← hW]; rfl
theorem bl_isC {n : Node} {i : Int} (h : (blookup n i).2=true) : n.isC=true∧Bm.has n.bitmap i=true:=by
 unfold blookup at h; split at h
 ·cases h
 ·rename_i q; simpa using q
theorem pin_no {n : Node} {i r : Int} (h : n.isC=false∨(blookup n i).2=true∨(i<0∨63<i∨r<1)) : pinserted n i r=({},false):=by
 unfold pinserted; rw [if_pos]
 rcases h with h | h | h
 ·exact .inl h
 ·exact .inr (.inr (.inr (.inr (bl_isC h).2)))
 ·rcases h with h | h | h
  ·exact .inr (.inl h)
  ·exact .inr (.inr (.inl h))
  ·exact .inr (.inr (.inr (.inl h)))
theorem bl_no {n : Node} {i : Int} (h : (blookup n i).2=false) : n.isC=false∨Bm.has n.bitmap i=false:=by
 unfold blookup at h; split at h
 ·assumption
 ·cases h
theorem pup_no {n : Node} {i r : Int} (h : (blookup n i).2=false∨r<1) : pupdated n i r=({},false):=by
 unfold pupdated; rw [if_pos]
 rcases h with h | h
 ·rcases bl_no h with h | h
  ·exact .inl h
  ·exact .inr (.inr (.inr (.inr h)))
 ·exact .inr (.inr (.inr (.inl h)))
theorem prm_no {n : Node} {i : Int} (h : (blookup n i).2=false) : premoved n i=({},false):=by
 unfold premoved; rw [if_pos]
 rcases bl_no h with h | h
 ·exact .inl h
 ·exact .inr (.inr (.inr h))
def grownOf (n : Node) (key : ByteArray) (v : Nat) : Node:={ kind:=6,hash:=n.hash,pairs:=pput n.pairs key v }
theorem gr_no {n : Node} {key : ByteArray} {v : Nat} (h : n.isL=false∨64<key.size) : grown n key v=({},false):=by unfold grown; rw [if_pos h]
theorem gr_yes {n : Node} {key : ByteArray} {v : Nat} (h : n.isL=true) (hk : ¬ 64<key.size) : grown n key v=(grownOf n key v,true):=by unfold grown; rw [if_neg (by simp [h]; omega)]; rfl
end Go.Ct
namespace Go.Ct
def shrunkT (n : Node) (key : ByteArray) : Node:={ kind:=5,hash:=n.hash,key:=((pdrop n.pairs key).getD 0 ⟨.empty,0⟩).key,value:=((pdrop n.pairs key).getD 0 ⟨.empty,0⟩).value }
def shrunkL (n : Node) (key : ByteArray) : Node:={ kind:=6,hash:=n.hash,pairs:=pdrop n.pairs key }
theorem sh_no {n : Node} {key : ByteArray} (h : (pfind n.pairs key).2=false) : shrunk n key=({},false):=by unfold shrunk; rw [if_pos (.inr h)]
theorem sh_one {n : Node} {key : ByteArray} (hi : n.isL=true) (h : (pfind n.pairs key).2=true) (hl : (pdrop n.pairs key).length=1) : shrunk n key=(shrunkT n key,true):=by
 unfold shrunk shrunkT; rw [if_neg (by simp [hi,h])]
 match hp : pdrop n.pairs key,hl with
 | [p],_=>rfl
theorem sh_more {n : Node} {key : ByteArray} (hi : n.isL=true) (h : (pfind n.pairs key).2=true) (hl : (pdrop n.pairs key).length≠1) : shrunk n key=(shrunkL n key,true):=by
 unfold shrunk shrunkL; rw [if_neg (by simp [hi,h])]
 match hp : pdrop n.pairs key,hl with
 | [],_=>rfl
 | [p],hl=>exact absurd rfl hl
 | p::q::l,_=>rfl
end Go.Ct
end
