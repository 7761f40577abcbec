/- Parts of a proof: Rq. -/
import Derived.Test.YtmliojdkmfhmmaaGreatW10
set_option linter.unusedVariables false
set_option linter.unusedSimpArgs false
set_option maxRecDepth 100000
set_option maxHeartbeats 4000000
section
namespace Go.Ct
theorem pv_iff : ∀ l : List Pair,pairsValid l=true ↔ l.Pairwise fun a b=>keyLt a.key b.key=true
 | []=>by simp [pairsValid]
 | a::l=>by
  rw [List.pairwise_cons,← pv_iff l]
  refine ⟨fun h=>⟨pv_head h,pv_tail h⟩,fun h=>?_⟩
  cases l with
  | nil=>rfl
  | cons b l=>rw [pairsValid,Bool.and_eq_true]; exact ⟨h.1 b (by simp),h.2⟩
theorem bytesLess_total : ∀ a b : List UInt8,Op.bytesLess a b=false→a≠b→Op.bytesLess b a=true
 | [],[],_,h=>absurd rfl h
 | [],_::_,h,_=>by simp [Op.bytesLess] at h
 | _::_,[],_,_=>by simp [Op.bytesLess]
 | x::a,y::b,h,k=>by
  unfold Op.bytesLess at h ⊢
  simp only [Bool.or_eq_false_iff,Bool.and_eq_false_iff,Bool.or_eq_true,Bool.and_eq_true,decide_eq_true_eq,decide_eq_false_iff_not,beq_iff_eq] at h ⊢
  by_cases h2 : y<x
  ·exact .inl h2
  ·have e : x=y:=UInt8.le_antisymm (UInt8.not_lt.1 h2) (UInt8.not_lt.1 h.1)
   subst e
   refine .inr ⟨rfl,bytesLess_total a b ?_ fun e=>k (by rw [e])⟩
   rcases h.2 with h3 | h3
   ·simp at h3
   ·exact h3
theorem keyLt_total {a b : ByteArray} (h : keyLt a b=false) (k : keyEq a b=false) : keyLt b a=true :=
 bytesLess_total _ _ h (by unfold keyEq at k; simpa using k)
theorem pat_mem_take {l : List Pair} {j : Nat} {q : Pair} (h : q ∈ l.take j) : ∃ m,m<j∧m<l.length∧q=pat l m:=by
 obtain ⟨m,hm,rfl⟩:=List.mem_iff_getElem.1 h
 rw [List.length_take] at hm
 refine ⟨m,by omega,by omega,?_⟩
 simp [pat,List.getElem?_eq_getElem (show m<l.length by omega)]
theorem pat_mem_drop {l : List Pair} {j : Nat} {q : Pair} (h : q ∈ l.drop j) : ∃ m,j≤m∧m<l.length∧q=pat l m:=by
 obtain ⟨m,hm,rfl⟩:=List.mem_iff_getElem.1 h
 rw [List.length_drop] at hm
 refine ⟨j+m,by omega,by omega,?_⟩
 simp [pat,List.getElem?_eq_getElem (show j+m<l.length by omega)]
theorem map_put (l : List Pair) (j : Nat) (h : j<l.length) (v : Nat) : (l.take j ++ (⟨(pat l j).key,v⟩ : Pair)::l.drop (j+1)).map (·.key)=l.map (·.key):=by
 have e : ((pat l j).key : ByteArray)=(l.map (·.key))[j]'(by simpa using h):=by simp [pat,List.getElem?_eq_getElem h]
 rw [List.map_append,List.map_cons,List.map_take,List.map_drop]
 show (l.map (·.key)).take j ++ (pat l j).key::(l.map (·.key)).drop (j+1)=_
 rw [e,← List.drop_eq_getElem_cons,List.take_append_drop]
theorem pput_sorted (l : List Pair) (key : ByteArray) (v : Nat) (h : pairsValid l=true) : pairsValid (pput l key v)=true:=by
 unfold pput
 rw [if_neg (by rw [h]; decide)]
 have hl:=(pv_iff l).1 h
 split
 ·rename_i hp
  unfold phas at hp
  rw [Bool.and_eq_true,decide_eq_true_eq] at hp
  rw [pv_iff,← List.pairwise_map (f:=fun q : Pair=>q.key) (R:=fun a b=>keyLt a b=true),map_put l _ hp.1,List.pairwise_map]
  exact hl
 ·rename_i hp
  rw [pv_iff,List.pairwise_append,List.pairwise_cons]
  have up : ∀ q ∈ l.drop (pbelow l key),keyLt key q.key=true:=fun q hq=>by
   obtain ⟨m,h1,h2,rfl⟩:=pat_mem_drop hq
   have hj : pbelow l key<l.length:=by omega
   have a1:=pbelow_at l key hj
   have a2 : keyEq (pat l (pbelow l key)).key key=false:=by
    unfold phas at hp
    simp only [Bool.and_eq_true,decide_eq_true_eq,not_and,Bool.not_eq_true] at hp
    exact hp hj
   have a3:=keyLt_total a1 a2
   rcases Nat.eq_or_lt_of_le h1 with e | hlt
   ·rw [← e]; exact a3
   ·exact keyLt_trans a3 (pv_lt l h _ _ hlt h2)
  refine ⟨hl.sublist (List.take_sublist _ _),⟨up,hl.sublist (List.drop_sublist _ _)⟩,fun a ha b hb=>?_⟩
  obtain ⟨m,h1,h2,rfl⟩:=pat_mem_take ha
  have a1:=pbelow_lt l key m h1
  rcases List.mem_cons.1 hb with rfl | hb
  ·exact a1
  ·exact keyLt_trans a1 (up b hb)
theorem pput_len (l : List Pair) (key : ByteArray) (v : Nat) (h : pairsValid l=true) : l.length≤(pput l key v).length∧(pput l key v).length≤l.length+1:=by
 unfold pput
 rw [if_neg (by rw [h]; decide)]
 have:=pbelow_le l key
 split
 ·rename_i hp
  unfold phas at hp
  rw [Bool.and_eq_true,decide_eq_true_eq] at hp
  simp [List.length_take,List.length_drop]; omega
 ·simp [List.length_take,List.length_drop]; omega
theorem pput_keys (l : List Pair) (key : ByteArray) (v : Nat) (P : ByteArray→Prop) (h : ∀ q ∈ l,P q.key) (hk : P key) : ∀ q ∈ pput l key v,P q.key:=by
 unfold pput
 split
 ·intro q hq; cases hq
 ·split
  ·rename_i hp
   unfold phas at hp
   rw [Bool.and_eq_true,decide_eq_true_eq] at hp
   intro q hq
   rw [List.mem_append,List.mem_cons] at hq
   rcases hq with hq | rfl | hq
   ·exact h q (List.mem_of_mem_take hq)
   ·show P (pat l (pbelow l key)).key
    refine h _ ?_
    unfold pat; rw [List.getD_eq_getElem?_getD,List.getElem?_eq_getElem hp.1]; exact List.getElem_mem hp.1
   ·exact h q (List.mem_of_mem_drop hq)
  ·intro q hq
   rw [List.mem_append,List.mem_cons] at hq
   rcases hq with hq | rfl | hq
   ·exact h q (List.mem_of_mem_take hq)
   ·exact hk
   ·exact h q (List.mem_of_mem_drop hq)
theorem pdrop_sorted (l : List Pair) (key : ByteArray) (h : pairsValid l=true) : pairsValid (pdrop l key)=true:=by
 unfold pdrop
 rw [if_neg (by rw [h]; decide)]
 split
 ·rw [pv_iff]
  have hl:=(pv_iff l).1 h
  refine hl.sublist ?_
  conv=>rhs; rw [← List.take_append_drop (pbelow l key) l]
  refine List.Sublist.append (List.Sublist.refl _) ?_
  rw [← List.drop_drop]
  exact List.drop_sublist _ _
 ·exact h
theorem pdrop_len (l : List Pair) (key : ByteArray) (h : pairsValid l=true) : (pdrop l key).length≤l.length∧l.length≤(pdrop l key).length+1:=by
 unfold pdrop
 rw [if_neg (by rw [h]; decide)]
 split
 ·simp [List.length_take,List.length_drop]; omega
 ·omega
theorem pdrop_mem (l : List Pair) (key : ByteArray) : ∀ q ∈ pdrop l key,q ∈ l:=by
 unfold pdrop
 split
 ·intro q hq; cases hq
 ·split
  ·intro q hq
   rw [List.mem_append] at hq
   exact hq.elim List.mem_of_mem_take List.mem_of_mem_drop
  ·exact fun q hq=>hq
theorem pof2_sorted (a b : Pair) (h : keyEq a.key b.key=false) : pairsValid (pof2 a b)=true:=by
 unfold pof2
 cases hk : keyLt b.key a.key with
 | true=>simp [pairsValid,hk]
 | false =>
  have : keyEq b.key a.key=false:=by
   unfold keyEq at h ⊢; simp only [beq_eq_false_iff_ne] at h ⊢; exact fun e=>h e.symm
  simp [pairsValid,keyLt_total hk this]
theorem keysShort_iff (l : List Pair) : keysShort l=true ↔ ∀ q ∈ l,q.key.size≤64:=by
 unfold keysShort; simp
theorem pop_le_pop' : ∀ m n x,Bm.pop n x≤Bm.pop (n+m) x
 | 0,n,x=>Nat.le_refl _
 | m+1,n,x=>Nat.le_trans (pop_le_pop' m n x) (by rw [← Nat.add_assoc,Bm.pop_testBit]; omega)
theorem pos_lt {b : Nat} {i : Int} (h : Bm.has b i=true) : Bm.position b i<Bm.pop 64 b:=by
 unfold Bm.has at h
 simp only [Bool.and_eq_true,decide_eq_true_eq] at h
 obtain ⟨h0,h1,h2⟩:=h
 obtain ⟨x,rfl⟩:=Int.eq_ofNat_of_zero_le h0
 have hx : x<64:=by omega
 have e : Bm.position b (x : Int)=Bm.pop x b:=by
  unfold Bm.position Bm.cut
  by_cases z : (x : Int)≤0
  ·have : x=0:=by omega
   subst this; rfl
  ·rw [if_neg z,if_neg (by omega)]; rfl
 have s:=Bm.pop_testBit x b
 have m:=pop_le_pop' (64 - (x+1)) (x+1) b
 rw [show x+1+(64 - (x+1))=64 by omega] at m
 have hb : b.testBit x=true:=h2
 rw [hb] at s
 simp at s
 omega
theorem pos_le (b : Nat) (i : Int) : Bm.position b i≤Bm.pop 64 b:=by
 unfold Bm.position
 have hc : Bm.cut i≤64:=by unfold Bm.cut; split; omega; split <;> omega
 have:=pop_le_pop' (64 - Bm.cut i) (Bm.cut i) b
 rwa [show Bm.cut i+(64 - Bm.cut i)=64 by omega] at this
theorem pop_with {b : Nat} {i : Int} (h0 : 0≤i) (h1 : i<64) (h : Bm.has b i=false) : Bm.pop 64 (Bm.withE b i)=Bm.pop 64 b+1:=by
 obtain ⟨x,rfl⟩:=Int.eq_ofNat_of_zero_le h0
 have hx : x<64:=by omega
 rw [Bm.pop_withE b x hx 64,if_pos ⟨hx,by rwa [Bm.has_nat b x hx] at h⟩]
theorem pop_without {b : Nat} {i : Int} (h0 : 0≤i) (h1 : i<64) (h : Bm.has b i=true) : Bm.pop 64 b=Bm.pop 64 (Bm.withoutE b i)+1:=by
 obtain ⟨x,rfl⟩:=Int.eq_ofNat_of_zero_le h0
 have hx : x<64:=by omega
 have hb : b.testBit x=true:=by rwa [Bm.has_nat b x hx] at h
 have e:=Bm.pop_withE (Bm.withoutE b x) x hx 64
 rw [Bm.with_without b x hx,Bm.pop_withE b x hx 64] at e
 have h2 : (Bm.withoutE b (x : Int)).testBit x=false:=by rw [Bm.testBit_withoutE b x hx x]; simp
 rw [if_neg (by rw [hb]; simp),if_pos ⟨hx,h2⟩] at e
 exact e
theorem pop_one {i : Int} (h0 : 0≤i) (h1 : i<64) : Bm.pop 64 (Bm.withE 0 i)=1:=by
 rw [pop_with h0 h1 (by unfold Bm.has; simp)]
 decide +kernel
theorem slice_range (h : Nat) (l : Int) : 0≤slice h l∧slice h l<64:=by
 unfold slice; split <;> omega
theorem has_with {i k : Int} (h0 : 0≤i) (h1 : i<64) (k0 : 0≤k) (k1 : k<64) (hne : i≠k) : Bm.has (Bm.withE 0 i) k=false:=by
 obtain ⟨x,rfl⟩:=Int.eq_ofNat_of_zero_le h0
 obtain ⟨y,rfl⟩:=Int.eq_ofNat_of_zero_le k0
 rw [Bm.has_withE 0 x y (by omega) (by omega)]
 have : x≠y:=fun e=>hne (by rw [e])
 unfold Bm.has; simp [this]
def Node.Fit (L : Nat) (n : Node) : Prop:=n.fits L∧n.key.size≤64
theorem Node.Fit.mono {L M : Nat} {n : Node} (h : n.Fit L) (hLM : L≤M) : n.Fit M :=⟨h.1.mono hLM,h.2⟩
theorem fit_small (L : Nat) (k g o e w : Int) (h : k≠3∧k≠6:=by decide) : Node.Fit L { kind:=k,gen:=g,old:=o,expected:=e,new:=w } :=⟨fits_small L k g o e w h,by show (0 : Nat)≤64; decide⟩
theorem fit_zero (L : Nat) : Node.Fit L {}:=fit_small L 0 0 0 0 0
theorem fit_empty (L : Nat) : Node.Fit L { kind:=3 } :=⟨fits_empty L,by show (0 : Nat)≤64; decide⟩
theorem fit_key (L : Nat) (k : Int) (h : Nat) (key : ByteArray) (v : Nat) (hk : k≠3∧k≠6) (hh : h<18446744073709551616) (hs : key.size≤64) : Node.Fit L { kind:=k,hash:=h,key:=key,value:=v } :=
 ⟨⟨Nat.zero_le _,Nat.zero_le _,by show (0 : Nat)<_; decide,hh,by show key.size≤_; omega,(fun p hp=>by cases hp),fun h=>absurd h (by rintro (h1 | h1); exact hk.1 h1; exact hk.2 h1)⟩,hs⟩
theorem isC_of {n : Node} (h : n.isC=true) : n.kind=3∧n.valid=true:=by unfold Node.isC at h; simpa using h
theorem fit_C (L b : Nat) (l : List Int) (hb : b<18446744073709551616) (h1 : ∀ x ∈ l,1≤x) (h2 : l.length=Bm.pop 64 b) : Node.Fit L { kind:=3,bitmap:=b,branches:=l }:=by
 have hp:=Bm.pop_le 64 b
 refine ⟨⟨by show l.length≤_; omega,Nat.zero_le _,hb,by show (0 : Nat)<_; decide,by show (0 : Nat)≤_; decide,(fun p hp=>by cases hp),fun _=>?_⟩,by show (0 : Nat)≤64; decide⟩
 show Node.valid { kind:=3,bitmap:=b,branches:=l,prev:=0 }=true
 rw [valid_C b l 0 (Int.le_refl _)]
 simp only [Bool.and_eq_true,List.all_eq_true,decide_eq_true_eq,beq_iff_eq]
 exact ⟨h1,h2⟩
theorem fit_L (L h : Nat) (l : List Pair) (hh : h<18446744073709551616) (h0 : 2≤l.length) (h1 : l.length≤L+2) (h2 : pairsValid l=true) (h3 : ∀ q ∈ l,q.key.size≤64) : Node.Fit L { kind:=6,hash:=h,pairs:=l }:=by
 refine ⟨⟨Nat.zero_le _,h1,by show (0 : Nat)<_; decide,hh,by show (0 : Nat)≤_; decide,(fun p hp=>by have:=h3 p hp; omega),fun _=>?_⟩,by show (0 : Nat)≤64; decide⟩
 show Node.valid { kind:=6,hash:=h,pairs:=l,prev:=0 }=true
 rw [valid_L h l 0 (Int.le_refl _)]
 simp only [Bool.and_eq_true,decide_eq_true_eq]
 exact ⟨h0,h2,(keysShort_iff l).2 h3⟩
theorem branches_pos {n : Node} (h : n.isC=true) : (∀ x ∈ n.branches,1≤x)∧n.branches.length=Bm.pop 64 n.bitmap:=by
 obtain ⟨hk,hv⟩:=isC_of h
 obtain ⟨_,_,_,_,h1,h2⟩:=valid3 hk hv
 exact ⟨by simpa using h1,h2⟩
theorem fit_updated {L : Nat} {n : Node} (h : n.Fit L) (i r : Int) : (pupdated n i r).1.Fit L:=by
 unfold pupdated
 split
 ·exact fit_zero L
 ·rename_i hc
  simp only [not_or,Bool.not_eq_false,Int.not_lt] at hc
  obtain ⟨b1,b2⟩:=branches_pos hc.1
  have hp:=pos_lt hc.2.2.2.2
  refine fit_C L _ _ h.1.2.2.1 (fun x hx=>?_) ?_
  ·rw [List.mem_append,List.mem_cons] at hx
   rcases hx with hx | rfl | hx
   ·exact b1 x (List.mem_of_mem_take hx)
   ·omega
   ·exact b1 x (List.mem_of_mem_drop hx)
  ·simp [List.length_take,List.length_drop]; omega
theorem fit_inserted {L : Nat} {n : Node} (h : n.Fit L) (i r : Int) : (pinserted n i r).1.Fit L:=by
 unfold pinserted
 split
 ·exact fit_zero L
 ·rename_i hc
  simp only [not_or,Bool.not_eq_false,Int.not_lt,Bool.not_eq_true] at hc
  obtain ⟨b1,b2⟩:=branches_pos hc.1
  have hp:=pos_le n.bitmap i
  refine fit_C L _ _ (Bm.withE_lt _ _ h.1.2.2.1) (fun x hx=>?_) ?_
  ·rw [List.mem_append,List.mem_cons] at hx
   rcases hx with hx | rfl | hx
   ·exact b1 x (List.mem_of_mem_take hx)
   ·omega
   ·exact b1 x (List.mem_of_mem_drop hx)
  ·rw [pop_with (by omega) (by omega) hc.2.2.2.2]
   simp [List.length_take,List.length_drop]; omega
theorem fit_removed {L : Nat} {n : Node} (h : n.Fit L) (i : Int) : (premoved n i).1.Fit L:=by
 unfold premoved
 split
 ·exact fit_zero L
 ·rename_i hc
  simp only [not_or,Bool.not_eq_false,Int.not_lt] at hc
  obtain ⟨b1,b2⟩:=branches_pos hc.1
  have hp:=pos_lt hc.2.2.2
  have hq:=pop_without (b:=n.bitmap) (i:=i) (by omega) (by omega) hc.2.2.2
  refine fit_C L _ _ (Bm.withoutE_lt _ _ h.1.2.2.1) (fun x hx=>?_) ?_
  ·rw [List.mem_append] at hx
   exact hx.elim (fun hx=>b1 x (List.mem_of_mem_take hx)) fun hx=>b1 x (List.mem_of_mem_drop hx)
  ·simp [List.length_take,List.length_drop]; omega
theorem fit_tombOf {L : Nat} {n : Node} (h : n.Fit L) : (tombOf n).Fit L:=fit_key L 5 _ _ _ (by decide) h.1.2.2.2.1 h.2
theorem fit_singleOf {L : Nat} {n : Node} (h : n.Fit L) : (singleOf n).Fit L:=fit_key L 4 _ _ _ (by decide) h.1.2.2.2.1 h.2
theorem fit_contracted {L : Nat} {c s : Node} (h : c.Fit L) (k : s.Fit L) (l : Int) : (contracted c l s).Fit L:=by
 unfold contracted; split
 ·exact fit_tombOf k
 ·exact h
theorem fit_untombed {L : Nat} {n : Node} (h : n.Fit L) : (untombed n).1.Fit L:=by
 unfold untombed; split
 ·exact fit_singleOf h
 ·exact fit_zero L
theorem isL_of {n : Node} (h : n.isL=true) : n.kind=6∧n.valid=true:=by unfold Node.isL at h; simpa using h
theorem fit_grown {L : Nat} {n : Node} (h : n.Fit L) (key : ByteArray) (v : Nat) : (grown n key v).1.Fit (L+1):=by
 unfold grown; split
 ·exact fit_zero _
 ·rename_i hc
  simp only [not_or,Bool.not_eq_false,Nat.not_lt] at hc
  obtain ⟨hk,hv⟩:=isL_of hc.1
  obtain ⟨_,_,_,_,h1,h2,h3⟩:=valid6 hk hv
  have hl:=pput_len n.pairs key v h2
  have:=h.1.2.1
  exact fit_L (L+1) _ _ h.1.2.2.2.1 (by omega) (by omega) (pput_sorted _ _ _ h2) (pput_keys _ _ _ (fun k=>k.size≤64) ((keysShort_iff _).1 h3) hc.2)
theorem fit_shrunk {L : Nat} {n : Node} (h : n.Fit L) (key : ByteArray) : (shrunk n key).1.Fit L:=by
 unfold shrunk; split
 ·exact fit_zero _
 ·rename_i hc
  simp only [not_or,Bool.not_eq_false] at hc
  obtain ⟨hk,hv⟩:=isL_of hc.1
  obtain ⟨_,_,_,_,h1,h2,h3⟩:=valid6 hk hv
  have hl:=pdrop_len n.pairs key h2
  have hs:=pdrop_sorted n.pairs key h2
  have hm:=pdrop_mem n.pairs key
  have h3:=(keysShort_iff _).1 h3
  have:=h.1.2.1
  split
  ·rename_i p hp
   exact fit_key L 5 _ _ _ (by decide) h.1.2.2.2.1 (h3 p (hm p (by rw [hp]; simp)))
  ·rename_i l hp
   refine fit_L L _ _ h.1.2.2.2.1 ?_ (by omega) hs fun q hq=>h3 q (hm q hq)
   match hq : pdrop n.pairs key with
   | []=>rw [hq] at hl; simp at hl; omega
   | [p]=>exact absurd hq (hp p)
   | a::b::l=>simp
theorem blookup_pos {n : Node} {i : Int} (h : (blookup n i).2=true) : 1≤(blookup n i).1:=by
 unfold blookup at h ⊢
 split at h
 ·cases h
 ·rename_i hc
  rw [if_neg hc]
  simp only [not_or,Bool.not_eq_false] at hc
  obtain ⟨b1,b2⟩:=branches_pos hc.1
  have hp:=pos_lt hc.2
  refine b1 _ ?_
  show n.branches.getD (Bm.position n.bitmap i) 0 ∈ n.branches
  rw [List.getD_eq_getElem?_getD,List.getElem?_eq_getElem (by omega)]
  exact List.getElem_mem _
theorem common_lt (h k : Nat) : ∀ n l,common h k n l≤l+n∧(common h k n l<l+n→slice h (common h k n l : Nat)≠slice k (common h k n l : Nat))
 | 0,l=>⟨Nat.le_refl _,fun h=>absurd h (Nat.lt_irrefl _)⟩
 | n+1,l=>by
  unfold common
  split
  ·have:=common_lt h k n (l+1)
   exact ⟨by omega,fun h=>this.2 (by omega)⟩
  ·rename_i hne; exact ⟨by omega,fun _=>hne⟩
theorem fit_bpair (L : Nat) (i a k b : Int) (h0 : 0≤i) (h1 : i<64) (k0 : 0≤k) (k1 : k<64) (hne : i≠k) (ha : 1≤a) (hb : 1≤b) : (bpair i a k b).Fit L:=by
 refine fit_C L _ _ (Bm.withE_lt _ _ (Bm.withE_lt _ _ (by decide))) ?_ ?_
 ·intro x hx
  split at hx <;> simp at hx <;> rcases hx with rfl | rfl <;> assumption
 ·rw [pop_with k0 k1 (has_with h0 h1 k0 k1 hne),pop_one h0 h1]
  split <;> rfl
theorem fit_one (L : Nat) (i r : Int) (h0 : 0≤i) (h1 : i<64) (hr : 1≤r) : Node.Fit L { kind:=3,bitmap:=Bm.withE 0 i,branches:=[r] } :=
 fit_C L _ _ (Bm.withE_lt _ _ (by decide)) (fun x hx=>by simp at hx; omega) (by rw [pop_one h0 h1]; rfl)
theorem dualUp_fit (L h : Nat) (gen first : Int) (hf : 1≤first) : ∀ (n : Nat) (k : Int) (l : List (Node × Int)),1≤l.length→(∀ z ∈ l,z.1.Fit L)→(∀ z ∈ dualUp h gen first k n l,z.1.Fit L)∧(dualUp h gen first k n l).length=l.length+2 * n∧l <+: dualUp h gen first k n l
 | 0,k,l,_,hl=>⟨hl,rfl,List.prefix_refl _⟩
 | n+1,k,l,h1,hl=>by
  unfold dualUp
  obtain ⟨g1,g2,g3⟩:=dualUp_fit L h gen first hf n (k - 1) (l ++ [({ kind:=2,gen:=gen },first+l.length - 1),({ kind:=3,bitmap:=Bm.withE 0 (slice h (k - 1)),branches:=[first+l.length - 1+1] },0)]) (by simp) (fun z hz=>by
   rw [List.mem_append] at hz
   rcases hz with hz | hz
   ·exact hl z hz
   ·simp only [List.mem_cons,List.not_mem_nil,or_false] at hz
    rcases hz with rfl | rfl
    ·exact fit_small L 2 gen 0 0 0
    ·exact fit_one L _ _ (slice_range _ _).1 (slice_range _ _).2 (by show (1 : Int)≤first+l.length - 1+1; omega))
  exact ⟨g1,by rw [g2]; simp; omega,(List.prefix_append _ _).trans g3⟩
theorem dualNodes_fit (L : Nat) (x : Node) (at_ : Int) (h : Nat) (key : ByteArray) (v : Nat) (level gen first : Int) (hf : 1≤first) (ha : 1≤at_) (hx : x.key.size≤64) (hk : key.size≤64) (hh : h<18446744073709551616) (hne : keyEq x.key key=false) (hl : 0≤level) :
  (∀ z ∈ dualNodes x at_ h key v level gen first,z.1.Fit L)∧(dualNodes x at_ h key v level gen first).length≤24:=by
 unfold dualNodes
 dsimp only
 have hc:=common_lt x.hash h 11 0
 have he : commonOf x.hash h=common x.hash h 11 0:=rfl
 split
 ·obtain ⟨g1,g2,_⟩:=dualUp_fit L h gen first hf (11 - level).toNat 11 [({ kind:=6,hash:=h,pairs:=pof2 ⟨x.key,x.value⟩ ⟨key,v⟩ },0)] (by simp) (fun z hz=>by
   rw [List.mem_singleton] at hz; subst hz
   have hlen : (pof2 ⟨x.key,x.value⟩ ⟨key,v⟩).length=2:=by unfold pof2; split <;> rfl
   refine fit_L L _ _ hh (by omega) (by omega) (pof2_sorted _ _ hne) fun q hq=>?_
   unfold pof2 at hq
   split at hq <;> simp at hq <;> rcases hq with rfl | rfl <;> assumption)
  exact ⟨g1,by rw [g2]; simp; omega⟩
 ·rename_i hlt
  obtain ⟨g1,g2,_⟩:=dualUp_fit L h gen first hf ((commonOf x.hash h : Int) - level).toNat (commonOf x.hash h) [({ kind:=4,hash:=h,key:=key,value:=v },0),(bpair (slice x.hash (commonOf x.hash h)) at_ (slice h (commonOf x.hash h)) first,0)] (by simp) (fun z hz=>by
   simp only [List.mem_cons,List.not_mem_nil,or_false] at hz
   rcases hz with rfl | rfl
   ·exact fit_key L 4 _ _ _ (by decide) hh hk
   ·exact fit_bpair L _ _ _ _ (slice_range _ _).1 (slice_range _ _).2 (slice_range _ _).1 (slice_range _ _).2 (by rw [he]; exact hc.2 (by rw [he] at hlt; omega)) ha hf)
  exact ⟨g1,by rw [g2]; simp; omega⟩
end Go.Ct
end
