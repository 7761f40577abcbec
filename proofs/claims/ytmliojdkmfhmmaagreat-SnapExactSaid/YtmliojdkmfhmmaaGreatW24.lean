/- Parts of a proof: Sa3, Rs, Q0, Sa4. -/
import Derived.Test.YtmliojdkmfhmmaaGreatW23
import Derived.Test.YtmliojdkmfhmmaaGreatW13
import Derived.Test.YtmliojdkmfhmmaaGreatW19
set_option linter.unusedVariables false
set_option linter.unusedSimpArgs false
set_option maxRecDepth 100000
set_option maxHeartbeats 4000000
section
namespace Go.Ct
variable {β : Type} {g : Ga}
theorem slice_nat {h j : Nat} (hj : j≤10) : slice h j=((h / 64 ^ j % 64 : Nat) : Int):=by
 unfold slice; rw [if_neg (by omega),Int.toNat_natCast]
theorem common_eq (h k : Nat) : ∀ n l j,l≤j→j<common h k n l→slice h j=slice k j
 | 0,l,j,h1,h2=>by unfold common at h2; omega
 | n+1,l,j,h1,h2=>by
  unfold common at h2
  split at h2
  ·rename_i e
   by_cases hj : j=l
   ·subst hj; first | exact e | exact (by simpa using e)
   ·exact common_eq h k n (l+1) j (by omega) h2
  ·omega
theorem mod_slices {a b : Nat} : ∀ c : Nat,c≤11→(∀ j : Nat,j<c→slice a j=slice b j)→a % 64 ^ c=b % 64 ^ c
 | 0,_,_=>by simp [Nat.mod_one]
 | c+1,hc,h=>by
  have e:=h c (by omega)
  rw [slice_nat (by omega),slice_nat (by omega)] at e
  have e : a / 64 ^ c % 64=b / 64 ^ c % 64:=by omega
  rw [Nat.pow_succ,Nat.mod_mul,Nat.mod_mul,e,mod_slices c (by omega) fun j hj=>h j (by omega)]
theorem slices_mod {a b c : Nat} (h : a % 64 ^ c=b % 64 ^ c) (hc : c≤11) : ∀ j : Nat,j<c→slice a j=slice b j:=fun j hj=>by
 rw [slice_nat (by omega),slice_nat (by omega)]
 have e : a % 64 ^ (j+1)=b % 64 ^ (j+1):=by
  rw [← Nat.mod_mod_of_dvd a (Nat.pow_dvd_pow 64 (show j+1≤c by omega)),← Nat.mod_mod_of_dvd b (Nat.pow_dvd_pow 64 (show j+1≤c by omega)),h]
 rw [Nat.pow_succ] at e
 rw [← Nat.mod_mul_right_div_self,← Nat.mod_mul_right_div_self,e]
theorem common_ge {a b c : Nat} (h : a % 64 ^ c=b % 64 ^ c) (hc : c≤11) : c≤commonOf a b:=by
 obtain ⟨h1,h2⟩:=common_lt a b 11 0
 unfold commonOf
 rcases Nat.lt_or_ge (common a b 11 0) c with h3 | h3
 ·exact absurd (slices_mod h hc _ h3) (h2 (by omega))
 ·exact h3
def upsT (h : Nat) (gen : Int) : Nat→Int→(Int→I β)→Int→I β
 | 0,_,k,m=>k m
 | j+1,lv,k,m=>.alloc { kind:=2,gen:=gen } m fun i=>.alloc (pinserted { kind:=3 } (slice h lv) i).1 0 fun m'=>upsT h gen j (lv - 1) k m'
def baseT (x : Node) (at_ : Int) (h : Nat) (key : ByteArray) (v : Nat) (c : Nat) (k : Int→I β) : I β :=
 if 11≤c then .alloc { kind:=6,hash:=h,pairs:=pof2 ⟨x.key,x.value⟩ ⟨key,v⟩ } 0 k
 else .alloc { kind:=4,hash:=h,key:=key,value:=v } 0 fun s=>.alloc (pinserted (pinserted { kind:=3 } (slice x.hash c) at_).1 (slice h c) s).1 0 k
theorem upsT_snoc (h : Nat) (gen : Int) (k : Int→I β) : ∀ (j : Nat) (lv m : Int),upsT h gen (j+1) lv k m=upsT h gen j lv (fun m=>.alloc { kind:=2,gen:=gen } m fun i=>.alloc (pinserted { kind:=3 } (slice h (lv - j)) i).1 0 k) m
 | 0,lv,m=>by simp [upsT]
 | j+1,lv,m=>by
  rw [upsT,upsT]
  congr 1; funext i; congr 1; funext m'
  rw [upsT_snoc h gen k j (lv - 1) m']
  rw [show lv - 1 - ((j : Nat) : Int)=lv - ((j+1 : Nat) : Int) by omega]
theorem main_ups (x : Node) (at_ : Int) (h : Nat) (key : ByteArray) (v : Nat) (gen : Int) : ∀ (n : Nat) (k : Int→I β),n≤11→11 - n≤commonOf x.hash h →
  mainT x at_ h key v gen n k=baseT x at_ h key v (commonOf x.hash h) fun m=>upsT h gen (commonOf x.hash h - (11 - n)) ((commonOf x.hash h : Int) - 1) k m
 | 0,k,hn,hc=>by
  have h1:=(common_lt x.hash h 11 0).1
  have h2 : commonOf x.hash h=11:=by unfold commonOf at *; omega
  rw [h2]; rfl
 | n+1,k,hn,hc=>by
  have h1:=(common_lt x.hash h 11 0).1
  have h2:=(common_lt x.hash h 11 0).2
  have h3:=common_eq x.hash h 11 0
  have hc' : commonOf x.hash h=common x.hash h 11 0:=rfl
  have eL : (11 : Int) - ((n+1 : Nat) : Int)=((11 - (n+1) : Nat) : Int):=by omega
  rw [mainT,eL]
  by_cases hs : slice h ((11 - (n+1) : Nat) : Int)=slice x.hash ((11 - (n+1) : Nat) : Int)
  ·rw [show (slice h ((11 - (n+1) : Nat) : Int) != slice x.hash ((11 - (n+1) : Nat) : Int))=false by rw [hs]; exact bne_self_eq_false _]
   have hlt : 11 - n≤commonOf x.hash h:=by
    rcases Nat.lt_or_ge (commonOf x.hash h) (11 - n) with q | q
    ·have e : commonOf x.hash h=11 - (n+1):=by omega
     have:=h2 (by omega)
     rw [← hc',e] at this
     exact absurd hs.symm this
    ·exact q
   show mainT x at_ h key v gen n _=_
   rw [main_ups x at_ h key v gen n _ (by omega) hlt]
   congr 1; funext m
   rw [show commonOf x.hash h - (11 - (n+1))=(commonOf x.hash h - (11 - n))+1 by omega,upsT_snoc]
   congr 1; funext m
   rw [show (commonOf x.hash h : Int) - 1 - ((commonOf x.hash h - (11 - n) : Nat) : Int)=((11 - (n+1) : Nat) : Int) by omega]
  ·rw [show (slice h ((11 - (n+1) : Nat) : Int) != slice x.hash ((11 - (n+1) : Nat) : Int))=true from bne_iff_ne.2 hs]
   have e : commonOf x.hash h=11 - (n+1):=by
    rcases Nat.lt_or_ge (11 - (n+1)) (commonOf x.hash h) with q | q
    ·exact absurd (h3 _ (Nat.zero_le _) q).symm hs
    ·omega
   rw [e,Nat.sub_self]
   unfold baseT
   rw [if_neg (by omega)]
   rfl
def upsL (h : Nat) (gen : Int) : Nat→Int→Int→List (Node × Int)
 | 0,_,_=>[]
 | j+1,lv,t=>({ kind:=2,gen:=gen },t)::({ kind:=3,bitmap:=Bm.withE 0 (slice h lv),branches:=[t+1] },0)::upsL h gen j (lv - 1) (t+2)
theorem dualUp_ups (h : Nat) (gen f : Int) : ∀ (j : Nat) (k : Int) (l : List (Node × Int)),dualUp h gen f k j l=l ++ upsL h gen j (k - 1) (f+l.length - 1)
 | 0,k,l=>by simp [dualUp,upsL]
 | j+1,k,l=>by
  rw [dualUp,dualUp_ups h gen f j (k - 1),upsL,List.append_assoc]
  congr 1
  rw [List.length_append,List.cons_append,List.cons_append,List.nil_append,show f+(((l.length+[(({ kind:=2,gen:=gen } : Node),f+(l.length : Int) - 1),({ kind:=3,bitmap:=Bm.withE 0 (slice h (k - 1)),branches:=[f+(l.length : Int) - 1+1] },0)].length : Nat) : Int)) - 1=f+l.length - 1+2 by simp; omega]
theorem dualI_base (x : Node) (at_ : Int) (h : Nat) (key : ByteArray) (v lv : Nat) (gen : Int) : dualI x at_ h key v lv gen =
  if 11≤commonOf x.hash h then .alloc { kind:=6,hash:=h,pairs:=pof2 ⟨x.key,x.value⟩ ⟨key,v⟩ } 0 fun f=>allocsI (upsL h gen (11 - lv) 10 f) f
  else .alloc { kind:=4,hash:=h,key:=key,value:=v } 0 fun f=>.alloc (bpair (slice x.hash (commonOf x.hash h)) at_ (slice h (commonOf x.hash h)) f) 0 fun r=>allocsI (upsL h gen (commonOf x.hash h - lv) ((commonOf x.hash h : Int) - 1) (f+1)) r:=by
 have hd : ∀ f,dualNodes x at_ h key v lv gen f=if 11≤commonOf x.hash h then ({ kind:=6,hash:=h,pairs:=pof2 ⟨x.key,x.value⟩ ⟨key,v⟩ },0)::upsL h gen (11 - lv) 10 f
   else ({ kind:=4,hash:=h,key:=key,value:=v },0)::(bpair (slice x.hash (commonOf x.hash h)) at_ (slice h (commonOf x.hash h)) f,0)::upsL h gen (commonOf x.hash h - lv) ((commonOf x.hash h : Int) - 1) (f+1):=fun f=>by
  unfold dualNodes
  dsimp only
  split
  ·rw [dualUp_ups,List.singleton_append,show ((11 : Int) - (lv : Int)).toNat=11 - lv by omega]
   congr 2
   show f+((1 : Nat) : Int) - 1=f; omega
  ·rw [dualUp_ups,List.cons_append,List.cons_append,List.nil_append,show ((commonOf x.hash h : Int) - (lv : Int)).toNat=commonOf x.hash h - lv by omega]
   congr 3
   show f+((2 : Nat) : Int) - 1=f+1; omega
 by_cases hc : 11≤commonOf x.hash h
 ·have e0:=hd 0
  rw [if_pos hc] at e0
  unfold dualI
  rw [e0,if_pos hc]
  show I.alloc _ _ _=I.alloc _ _ _
  congr 1; funext f
  rw [hd f,if_pos hc]; rfl
 ·have e0:=hd 0
  rw [if_neg hc] at e0
  unfold dualI
  rw [e0,if_neg hc]
  show I.alloc _ _ _=I.alloc _ _ _
  congr 1; funext f
  rw [hd f,if_neg hc]; rfl
theorem has0 (i : Int) : Bm.has 0 i=false:=by unfold Bm.has; simp
theorem bl_empty (i : Int) : blookup { kind:=3 } i=(0,false):=bl_no2 (has0 i)
theorem pins_one {i r : Int} (h0 : 0≤i) (h1 : i<64) (hr : 1≤r) : pinserted { kind:=3 } i r=({ kind:=3,bitmap:=Bm.withE 0 i,branches:=[r] },true):=by
 unfold pinserted
 rw [if_neg (by rw [show Node.isC { kind:=3 }=true by decide +kernel]; simp [has0]; omega)]
 simp
theorem ok_one {b : Lab} {i r : Int} (hb : b.1≤10) (hb2 : b.2<64 ^ b.1) (h0 : 0≤i) (h1 : i<64) (hr : isI g r (deeper b i)∨isS g r (deeper b i)) : NodeOk g (pinserted { kind:=3 } i r).1 b :=
 (ok_inserted (ok_empty hb hb2) rfl (by rw [bl_empty]) h0 h1 hr).1
variable [Qc β]
theorem alloc_len (g : Ga) (n : Node) (i : Int) (b : Lab) : (g.alloc n i b).nodes.length=g.nodes.length+1:=by rw [alloc_nodes,List.length_append]; rfl
theorem sm_ups {k k' : Int→I β} {h : Nat} {gen : Int} (hg1 : 1≤gen) : ∀ (j q : Nat) (g : Ga) (m : Int),GW g→j≤q→q≤11→gen≤g.gen→m=g.nodes.length+2→isM g m (q,h % 64 ^ q)→Kp g (q - j,h % 64 ^ (q - j)) k k' →
  Sm (upsT h gen j ((q : Int) - 1) k m) ((allocsI (upsL h gen j ((q : Int) - 1) m) m).bind k') g
 | 0,q,g,m,hw,hj,hq,hg,hm,hM,hk=>hk g (Ge.refl hw) hw m hM
 | j+1,0,g,m,hw,hj,hq,hg,hm,hM,hk=>absurd hj (by omega)
 | j+1,q+1,g,m,hw,hj,hq,hg,hm,hM,hk=>by
  have el : ((q+1 : Nat) : Int) - 1=(q : Int):=by omega
  rw [el]
  have es:=slice_lt h q
  have ed:=deeper_slice (h:=h) (l:=q) (by omega)
  refine .alloc (q+1,h % 64 ^ (q+1)) (ok_inner hg1 hg hq) ⟨fun _=>hM,(fun h=>by cases h),fun h=>by cases h⟩ fun h1 hw1=>?_
  have hI:=alloc_isI hw (n:={ kind:=2,gen:=gen }) (i:=m) (b:=(q+1,h % 64 ^ (q+1))) rfl
  have hlen : (g.alloc { kind:=2,gen:=gen } m (q+1,h % 64 ^ (q+1))).nodes.length=g.nodes.length+1:=by rw [alloc_nodes,List.length_append]; rfl
  have hC : NodeOk (g.alloc { kind:=2,gen:=gen } m (q+1,h % 64 ^ (q+1))) (pinserted { kind:=3 } (slice h q) (g.nodes.length+3)).1 (q,h % 64 ^ q) :=
   ok_one (by show q≤10; omega) (Nat.mod_lt _ (Nat.pow_pos (by decide))) es.1 es.2 (.inl (by rw [ed]; exact hI))
  have ep:=pins_one (i:=slice h q) (r:=g.nodes.length+3) es.1 es.2 (by omega)
  rw [ep] at hC
  have et : m+1=(g.nodes.length : Int)+3:=by omega
  show Sm (.alloc (pinserted { kind:=3 } (slice h q) (g.nodes.length+3)).1 0 _) (.alloc { kind:=3,bitmap:=Bm.withE 0 (slice h q),branches:=[m+1] } 0 _) _
  rw [ep,et]
  refine .alloc (q,h % 64 ^ q) hC (init_main rfl (.inl rfl)) fun h2 hw2=>?_
  have hM2:=alloc_isM hw1 (n:={ kind:=3,bitmap:=Bm.withE 0 (slice h q),branches:=[(g.nodes.length : Int)+3] }) (i:=0) (b:=(q,h % 64 ^ q)) rfl
  have e2 : m+2=((g.alloc { kind:=2,gen:=gen } m (q+1,h % 64 ^ (q+1))).nodes.length : Int)+3:=by rw [hlen]; omega
  rw [e2]
  refine sm_ups hg1 j q _ _ hw2 (by omega) (by omega) (by have:=(h1.trans h2).gen; omega) (by simp only [alloc_len]; omega) hM2 ?_
  rw [show q+1 - (j+1)=q - j by omega] at hk
  exact hk.ge (h1.trans h2)
theorem pins_two {i a k b : Int} (h0 : 0≤i) (h1 : i<64) (k0 : 0≤k) (k1 : k<64) (hne : i≠k) (ha : 1≤a) (hb : 1≤b) : (pinserted (pinserted { kind:=3 } i a).1 k b).1=bpair i a k b∧(blookup (pinserted { kind:=3 } i a).1 k).2=false:=by
 rw [pins_one h0 h1 ha]
 have hv : Node.valid { kind:=3,bitmap:=Bm.withE 0 i,branches:=[a] }=true:=(fit_one 0 i a h0 h1 ha).1.2.2.2.2.2.2 (.inl rfl)
 have hC : Node.isC { kind:=3,bitmap:=Bm.withE 0 i,branches:=[a] }=true:=by unfold Node.isC; rw [hv]; rfl
 have hh:=has_with h0 h1 k0 k1 hne
 refine ⟨?_,by rw [bl_no2 hh]⟩
 unfold pinserted bpair
 rw [if_neg (by rw [hC]; simp [hh]; omega)]
 obtain ⟨i,rfl⟩:=Int.eq_ofNat_of_zero_le h0
 obtain ⟨k,rfl⟩:=Int.eq_ofNat_of_zero_le k0
 have hp : Bm.position (Bm.withE 0 (i : Int)) (k : Int)=if i<k then 1 else 0:=by
  rw [pos_nat (by omega)]
  have hbit : ∀ j,(Bm.withE 0 (i : Int)).testBit j=decide (i=j):=fun j=>by
   rw [Bm.testBit_withE _ i (by omega)]; by_cases e : i=j <;> simp [e]
  have hz : ∀ m,m≤i→Bm.pop m (Bm.withE 0 (i : Int))=0:=fun m=>by
   induction m with
   | zero=>intro _; simp [Bm.pop]
   | succ m ih=>intro hm; rw [Bm.pop_testBit,ih (by omega),hbit]; simp [show i≠m by omega]
  have ho : ∀ m,i<m→Bm.pop m (Bm.withE 0 (i : Int))=1:=fun m=>by
   induction m with
   | zero=>intro h; omega
   | succ m ih =>
    intro hm
    rw [Bm.pop_testBit,hbit]
    by_cases e : i=m
    ·subst e; rw [hz i (Nat.le_refl _)]; simp
    ·rw [ih (by omega)]; simp [e]
  split
  ·exact ho k (by assumption)
  ·exact hz k (by omega)
 rw [hp]
 by_cases e : i<k
 ·rw [if_pos e,if_neg (by omega)]; simp
 ·rw [if_neg e,if_pos (by omega)]; simp
theorem ok_list {h : Nat} {l : List Pair} {b : Lab} (hh : h<18446744073709551616) (h0 : 2≤l.length) (h2 : pairsValid l=true) (h3 : ∀ q ∈ l,q.key.size≤64) (hb : b.1=11∧h % 64 ^ b.1=b.2) : NodeOk g { kind:=6,hash:=h,pairs:=l } b:=by
 have hf:=fit_L l.length h l hh h0 (by omega) h2 h3
 exact ⟨hf.1.2.2.2.2.2.2 (.inr rfl),⟨_,hf⟩,by show (2 : Int)≤6; decide,by show (6 : Int)≤8; decide,(fun h=>by cases h),(fun h=>by cases h),(fun h=>by cases h),fun _=>hb,(fun h=>by cases h),fun h=>by cases h⟩
theorem sm_dual {k k' : Int→I β} {x : Node} {at_ : Int} {h v lv : Nat} {key : ByteArray} {gen : Int} (hw : GW g) (hx : x=g.node at_) (hs : isS g at_ (lv,h % 64 ^ lv)) (hlv : lv≤11) (hh : h<18446744073709551616) (hkey : key.size≤64) (hne : keyEq x.key key=false) (hg1 : 1≤gen) (hg : gen≤g.gen)
  (hk : Kp g (lv,h % 64 ^ lv) k k') : Sm (mainT x at_ h key v gen (11 - lv) k) ((dualI x at_ h key v lv gen).bind k') g:=by
 have hxh : x.hash % 64 ^ lv=h % 64 ^ lv:=by rw [hx]; exact hs.2
 have hcg:=common_ge hxh hlv
 have hcl:=(common_lt x.hash h 11 0).1
 have hcn:=(common_lt x.hash h 11 0).2
 have hce : commonOf x.hash h=common x.hash h 11 0:=rfl
 have hkx : x.key.size≤64:=by rw [hx]; exact (hw.ofS hs).key
 rw [main_ups x at_ h key v gen (11 - lv) k (by omega) (by omega),dualI_base,show 11 - (11 - lv)=lv by omega]
 unfold baseT
 by_cases hc : 11≤commonOf x.hash h
 ·have e11 : commonOf x.hash h=11:=by omega
  rw [if_pos hc,if_pos hc,e11]
  have hlen : (pof2 ⟨x.key,x.value⟩ ⟨key,v⟩).length=2:=by unfold pof2; split <;> rfl
  refine .alloc (11,h % 64 ^ 11) (ok_list hh (by omega) (pof2_sorted _ _ hne) (fun q hq=>?_) ⟨rfl,rfl⟩) (init_main rfl (.inl rfl)) fun h1 hw1=>?_
  ·unfold pof2 at hq
   split at hq <;> simp at hq <;> rcases hq with rfl | rfl <;> assumption
  ·refine sm_ups hg1 (11 - lv) 11 _ _ hw1 (by omega) (by omega) (by have:=h1.gen; omega) (by simp only [alloc_len]; omega) (alloc_isM hw rfl) ?_
   rw [show 11 - (11 - lv)=lv by omega]
   exact hk.ge h1
 ·rw [if_neg hc,if_neg hc]
  generalize hC : commonOf x.hash h=c at *
  have hne2 : slice x.hash c≠slice h c:=by rw [hce]; exact hcn (by omega)
  have hagree : x.hash % 64 ^ c=h % 64 ^ c:=mod_slices c (by omega) fun j hj=>common_eq x.hash h 11 0 j (Nat.zero_le _) (by rw [← hce]; exact hj)
  have s1:=slice_lt x.hash c
  have s2:=slice_lt h c
  refine .alloc (0,0) (ok_key (.inl rfl) hh hkey (fun h=>by cases h)) (init_none (.inl rfl)) fun h1 hw1=>?_
  have hS:=alloc_isS (g:=g) (n:={ kind:=4,hash:=h,key:=key,value:=v }) (i:=0) (b:=(c+1,h % 64 ^ (c+1))) (b':=(0,0)) rfl rfl
  have hat : isS (g.alloc { kind:=4,hash:=h,key:=key,value:=v } 0 (0,0)) at_ (deeper (c,h % 64 ^ c) (slice x.hash c)):=by
   have hs1:=hs.ge h1
   refine ⟨hs1.1,?_⟩
   rw [← hagree,deeper_slice (by omega)]
   rw [h1.node hs.in_,← hx]
  obtain ⟨p1,p2⟩:=pins_two (b:=(g.nodes.length : Int)+3) s1.1 s1.2 s2.1 s2.2 hne2 hs.one (by omega)
  have o1 : NodeOk (g.alloc { kind:=4,hash:=h,key:=key,value:=v } 0 (0,0)) (pinserted { kind:=3 } (slice x.hash c) at_).1 (c,h % 64 ^ c):=ok_one (by show c≤10; omega) (Nat.mod_lt _ (Nat.pow_pos (by decide))) s1.1 s1.2 (.inr hat)
  obtain ⟨o2,_,o3⟩:=ok_inserted (i:=slice h c) (r:=(g.nodes.length : Int)+3) o1 (by rw [pins_one s1.1 s1.2 hs.one]) p2 s2.1 s2.2 (.inr (by rw [deeper_slice (by omega)]; exact hS))
  show Sm (.alloc (pinserted (pinserted { kind:=3 } (slice x.hash c) at_).1 (slice h c) (g.nodes.length+3)).1 0 _) (.alloc (bpair (slice x.hash c) at_ (slice h c) (g.nodes.length+3)) 0 _) _
  rw [p1] at o2 o3 ⊢
  refine .alloc (c,h % 64 ^ c) o2 (init_main o3 (.inl rfl)) fun h2 hw2=>?_
  have e : (g.nodes.length : Int)+3+1=((g.alloc { kind:=4,hash:=h,key:=key,value:=v } 0 (0,0)).nodes.length : Int)+3:=by simp only [alloc_len]; omega
  show Sm (upsT h gen (c - lv) ((c : Int) - 1) k _) ((allocsI (upsL h gen (c - lv) ((c : Int) - 1) ((g.nodes.length : Int)+3+1)) _).bind k') _
  rw [e]
  refine sm_ups hg1 (c - lv) c _ _ hw2 (by omega) (by omega) (by have:=(h1.trans h2).gen; omega) (by simp only [alloc_len]; omega) (alloc_isM hw1 o3) ?_
  rw [show c - (c - lv)=lv by omega]
  exact hk.ge (h1.trans h2)
end Go.Ct
end
section
namespace Go.Ct
def X.of (c : Call) (x : X) : X:={ e:={ x.e with call:=c },s:=x.s }
theorem X.of_eq {c : Call} {y : X} (h : y.e.call=c) : ∃ z : X,y=z.of c :=⟨y,by subst h; rfl⟩
variable {x y : X}
theorem loadR_call {a : Int} {o : Option Int} (h : loadR a x=(y,o)) : y.e.call=x.e.call:=by
 unfold loadR oldX stopX newX at h; repeat' split at h
 all_goals (cases h; rfl)
theorem casR_call {a b d : Int} {o : Option Bool} (h : casR a b d x=(y,o)) : y.e.call=x.e.call:=by
 unfold casR oldX stopX newX at h; repeat' split at h
 all_goals (cases h; rfl)
theorem allocR_call {n : Node} {i : Int} {o : Option Int} (h : allocR n i x=(y,o)) : y.e.call=x.e.call:=by
 unfold allocR at h; repeat' split at h
 all_goals (cases h; rfl)
theorem cellR_call {i : Int} {o : Option Int} (h : cellR i x=(y,o)) : y.e.call=x.e.call:=by
 unfold cellR at h; repeat' split at h
 all_goals (cases h; rfl)
theorem genR_call {o : Option Int} (h : genR x=(y,o)) : y.e.call=x.e.call:=by
 unfold genR at h; repeat' split at h
 all_goals (cases h; rfl)
theorem andR_call {α β : Type} {r : X × Option α} {f : α→X→X × Option β} {o : Option β} (hr : ∀ z o,r=(z,o)→z.e.call=x.e.call) (hf : ∀ v z o,f v z=(y,o)→y.e.call=z.e.call) (h : andR r f=(y,o)) : y.e.call=x.e.call:=by
 obtain ⟨z,p⟩:=r
 cases p with
 | none=>cases h; exact hr _ _ rfl
 | some v=>exact (hf v z o h).trans (hr _ _ rfl)
theorem runI_call {α : Type} : ∀ {t : I α} {x y : X} {o : Option α},runI t x=(y,o)→y.e.call=x.e.call
 | .ret a,x,y,o,h=>by unfold runI at h; split at h <;> (cases h; rfl)
 | .load c k,x,y,o,h=>andR_call (fun _ _=>loadR_call) (fun v z o h=>runI_call h) h
 | .cas c a n k,x,y,o,h=>andR_call (fun _ _=>casR_call) (fun v z o h=>runI_call h) h
 | .alloc n i k,x,y,o,h=>andR_call (fun _ _=>allocR_call) (fun v z o h=>runI_call h) h
 | .cell i k,x,y,o,h=>andR_call (fun _ _=>cellR_call) (fun v z o h=>runI_call h) h
 | .gen k,x,y,o,h=>andR_call (fun _ _=>genR_call) (fun v z o h=>runI_call h) h
 | .node r k,x,y,o,h=>by unfold runI at h; exact runI_call h
variable {c : Call}
theorem keL {a v : Int} (q : loadR a (x.of c)=out y v) : ∃ z,y=X.of c z:=X.of_eq (loadR_call q)
theorem keA {n : Node} {i v : Int} (q : allocR n i (x.of c)=out y v) : ∃ z,y=X.of c z:=X.of_eq (allocR_call q)
theorem keE {i v : Int} (q : cellR i (x.of c)=out y v) : ∃ z,y=X.of c z:=X.of_eq (cellR_call q)
theorem keG {v : Int} (q : genR (x.of c)=out y v) : ∃ z,y=X.of c z:=X.of_eq (genR_call q)
theorem keB {α : Type} {t : I α} {v : α} (q : runI t (x.of c)=out y v) : ∃ z,y=X.of c z:=X.of_eq (runI_call q)
end Go.Ct
end
section
namespace Go.Ct
variable {x y : X}
theorem loadR_len {a : Int} {o : Option Int} (h : loadR a x=(y,o)) : x.s.added.length≤y.s.added.length:=by
 unfold loadR oldX stopX newX St.load at h; repeat' split at h
 all_goals (cases h; exact Nat.le_refl _)
theorem casR_len {a b d : Int} {o : Option Bool} (h : casR a b d x=(y,o)) : x.s.added.length≤y.s.added.length:=by
 unfold casR oldX stopX newX St.cas at h; repeat' split at h
 all_goals (cases h; exact Nat.le_refl _)
theorem allocR_len {n : Node} {i : Int} {o : Option Int} (h : allocR n i x=(y,o)) : x.s.added.length≤y.s.added.length:=by
 unfold allocR at h; repeat' split at h
 ·cases h; exact Nat.le_refl _
 ·cases h; have:=(St.alloc_size x.s n i).2.2; dsimp only; omega
 ·cases h; exact Nat.le_refl _
theorem cellR_len {i : Int} {o : Option Int} (h : cellR i x=(y,o)) : x.s.added.length≤y.s.added.length:=by
 unfold cellR St.newCell at h; repeat' split at h
 all_goals (cases h; exact Nat.le_refl _)
theorem genR_len {o : Option Int} (h : genR x=(y,o)) : x.s.added.length≤y.s.added.length:=by
 unfold genR St.newGen at h; repeat' split at h
 all_goals (cases h; exact Nat.le_refl _)
theorem andR_len {α β : Type} {r : X × Option α} {f : α→X→X × Option β} {o : Option β} (hr : ∀ z o,r=(z,o)→x.s.added.length≤z.s.added.length) (hf : ∀ v z o,f v z=(y,o)→z.s.added.length≤y.s.added.length) (h : andR r f=(y,o)) : x.s.added.length≤y.s.added.length:=by
 obtain ⟨z,p⟩:=r
 cases p with
 | none=>cases h; exact hr _ _ rfl
 | some v=>exact Nat.le_trans (hr _ _ rfl) (hf v z o h)
theorem runI_len {α : Type} : ∀ {t : I α} {x y : X} {o : Option α},runI t x=(y,o)→x.s.added.length≤y.s.added.length
 | .ret a,x,y,o,h=>by unfold runI at h; split at h <;> (cases h; exact Nat.le_refl _)
 | .load c k,x,y,o,h=>andR_len (fun _ _=>loadR_len) (fun v z o h=>runI_len h) h
 | .cas c a n k,x,y,o,h=>andR_len (fun _ _=>casR_len) (fun v z o h=>runI_len h) h
 | .alloc n i k,x,y,o,h=>andR_len (fun _ _=>allocR_len) (fun v z o h=>runI_len h) h
 | .cell i k,x,y,o,h=>andR_len (fun _ _=>cellR_len) (fun v z o h=>runI_len h) h
 | .gen k,x,y,o,h=>andR_len (fun _ _=>genR_len) (fun v z o h=>runI_len h) h
 | .node r k,x,y,o,h=>by unfold runI at h; exact runI_len h
theorem leL {a v : Int} (q : loadR a x=out y v) : x.s.added.length≤y.s.added.length:=loadR_len q
theorem leA {n : Node} {i v : Int} (q : allocR n i x=out y v) : x.s.added.length≤y.s.added.length:=allocR_len q
theorem leE {i v : Int} (q : cellR i x=out y v) : x.s.added.length≤y.s.added.length:=cellR_len q
theorem leG {v : Int} (q : genR x=out y v) : x.s.added.length≤y.s.added.length:=genR_len q
theorem leB {α : Type} {t : I α} {v : α} (q : runI t x=out y v) : x.s.added.length≤y.s.added.length:=runI_len q
theorem Ok.len {j : Nat} (h : Ok j x) : x.s.added.length≤900000000000:=by
 have:=h.big; unfold X.size St.size roomMax at this; omega
theorem Ok.fitN {j : Nat} (h : Ok j x) (r : Int) : (x.node r).Fit x.s.added.length:=h.fit.node r
theorem Ok.nf {j : Nat} (h : Ok j x) (r : Int) : NF (x.node r):=(h.fit.node r).nf h.len
theorem rnT {α : Type} {c : Bool} {a b : I α} {x : X} {o : X × Option α} (hc : c=true) (h : runI b x=o) : runI (bif !c then a else b) x=o:=by rw [hc]; exact h
theorem rnF {α : Type} {c : Bool} {a b : I α} {x : X} {o : X × Option α} (hc : c=false) (h : runI a x=o) : runI (bif !c then a else b) x=o:=by rw [hc]; exact h
theorem natbeq (a b : Nat) : (((a : Nat) : Int)==((b : Nat) : Int))=(a==b):=by rw [Bool.eq_iff_iff,beq_iff_eq,beq_iff_eq]; omega
theorem lfL {a v : Int} (q : loadR a x=out y v) : y.left≤x.left:=loadR_left q
theorem allocR_lf {n : Node} {i : Int} {o : Option Int} (h : allocR n i x=(y,o)) : y.left≤x.left:=by
 unfold allocR at h; repeat' split at h
 all_goals (cases h; exact Nat.le_refl _)
theorem cellR_lf {i : Int} {o : Option Int} (h : cellR i x=(y,o)) : y.left≤x.left:=by
 unfold cellR at h; repeat' split at h
 all_goals (cases h; exact Nat.le_refl _)
theorem genR_lf {o : Option Int} (h : genR x=(y,o)) : y.left≤x.left:=by
 unfold genR at h; repeat' split at h
 all_goals (cases h; exact Nat.le_refl _)
theorem lfA {n : Node} {i v : Int} (q : allocR n i x=out y v) : y.left≤x.left:=allocR_lf q
theorem lfE {i v : Int} (q : cellR i x=out y v) : y.left≤x.left:=cellR_lf q
theorem lfG {v : Int} (q : genR x=out y v) : y.left≤x.left:=genR_lf q
theorem andR_lf {α β : Type} {r : X × Option α} {f : α→X→X × Option β} {o : Option β} (hr : ∀ z o,r=(z,o)→z.left≤x.left) (hf : ∀ v z o,f v z=(y,o)→y.left≤z.left) (h : andR r f=(y,o)) : y.left≤x.left:=by
 obtain ⟨z,p⟩:=r
 cases p with
 | none=>cases h; exact hr _ _ rfl
 | some v=>exact Nat.le_trans (hf v z o h) (hr _ _ rfl)
theorem runI_lf {α : Type} : ∀ {t : I α} {x y : X} {o : Option α},runI t x=(y,o)→y.left≤x.left
 | .ret a,x,y,o,h=>by unfold runI at h; split at h <;> (cases h; exact Nat.le_refl _)
 | .load c k,x,y,o,h=>andR_lf (fun _ _=>loadR_left) (fun v z o h=>runI_lf h) h
 | .cas c a n k,x,y,o,h=>andR_lf (fun _ _=>casR_left) (fun v z o h=>runI_lf h) h
 | .alloc n i k,x,y,o,h=>andR_lf (fun _ _=>allocR_lf) (fun v z o h=>runI_lf h) h
 | .cell i k,x,y,o,h=>andR_lf (fun _ _=>cellR_lf) (fun v z o h=>runI_lf h) h
 | .gen k,x,y,o,h=>andR_lf (fun _ _=>genR_lf) (fun v z o h=>runI_lf h) h
 | .node r k,x,y,o,h=>by unfold runI at h; exact runI_lf h
theorem lfB {α : Type} {t : I α} {v : α} (q : runI t x=out y v) : y.left≤x.left:=runI_lf q
theorem sgA {n : Node} {i v : Int} (q : allocR n i x=out y v) (h : x.e.stopped=true) : y.e.stopped=true:=by
 unfold allocR at q; rw [if_pos h] at q; have : x=y:=congrArg Prod.fst q; rw [← this]; exact h
theorem sgG {v : Int} (q : genR x=out y v) (h : x.e.stopped=true) : y.e.stopped=true:=by
 unfold genR at q; rw [if_pos h] at q; have : x=y:=congrArg Prod.fst q; rw [← this]; exact h
theorem sgB {α : Type} {t : I α} {v : α} (q : runI t x=out y v) (h : x.e.stopped=true) : y.e.stopped=true:=by
 rw [runI_stopped h] at q; have : x=y:=congrArg Prod.fst q; rw [← this]; exact h
theorem bind_bind {α β γ : Type} (t : I α) (f : α→I β) (g : β→I γ) (x : X) : runI ((t.bind f).bind g) x=runI (t.bind fun v=>(f v).bind g) x:=by
 rw [runI_bind,runI_bind,runI_bind,andR_and]; exact andR_congr fun v y=>(runI_bind _ _ _).symm
theorem rBB {α β γ : Type} {t : I α} {f : α→I β} {g : β→I γ} {x y : X} {v : α} {o : X × Option γ} (q : runI t x=out y v) (h : runI ((f v).bind g) y=o) : runI ((t.bind f).bind g) x=o:=(bind_bind t f g x).trans (rB q h)
theorem rNB {α β : Type} {r : Int} {k : Node→I α} {g : α→I β} {x : X} {o : X × Option β} (h : runI ((k (x.node r)).bind g) x=o) : runI ((I.node r k).bind g) x=o:=h
theorem rTB {α β : Type} {c : Bool} {a b : I α} {g : α→I β} {x : X} {o : X × Option β} (hc : c=true) (h : runI (a.bind g) x=o) : runI ((bif c then a else b).bind g) x=o:=by rw [hc]; exact h
theorem rFB {α β : Type} {c : Bool} {a b : I α} {g : α→I β} {x : X} {o : X × Option β} (hc : c=false) (h : runI (b.bind g) x=o) : runI ((bif c then a else b).bind g) x=o:=by rw [hc]; exact h
theorem rst {α : Type} {t t' : I α} {y : X} (h : y.e.stopped=true) : runI t y=runI t' y:=by rw [runI_stopped h,runI_stopped h]
def putK (c : Call) (k n : Nat) : Option Result→I Result
 | some r=>.ret r
 | none=>putI c k n
theorem putI_succ (c : Call) (k n : Nat) : putI c k (n+1)=(helpI c.trie).bind fun i=>.node i fun a=>(putIn c (hashOf c.key c.mask) a.gen k 0 i 0).bind (putK c k n):=by
 rw [putI]; congr 1
def dropK (c : Call) (k n : Nat) : Option Result→I Result
 | some r=>.ret r
 | none=>dropI c k n
theorem dropI_succ (c : Call) (k n : Nat) : dropI c k (n+1)=(helpI c.trie).bind fun i=>.node i fun a=>(dropIn c (hashOf c.key c.mask) a.gen k [i] i 0).bind (dropK c k n):=by
 rw [dropI]; congr 1
theorem natbne (a b : Nat) : (((a : Nat) : Int) != ((b : Nat) : Int))=(a != b):=by unfold bne; rw [natbeq]
theorem lt_load {α : Type} {a b : Nat} {c : Int} {k : Int→I α} {v : α} {j : Nat} (hx : Ok j x) (hk : ∀ v,GoodB a b (k v)) (ha : a≤j+99) (q : runI (.load c k) x=out y v) : y.e.stopped=true∨x.e.stopped=false∧y.left<x.left:=by
 cases hs : x.e.stopped with
 | true=>rw [runI_stopped hs] at q; have q1 : x=y:=congrArg Prod.fst q; subst q1; exact .inl hs
 | false =>
  rw [run_load] at q
  obtain ⟨z,o,hz⟩ : ∃ z o,loadR c x=(z,o) :=⟨_,_,rfl⟩
  rw [hz] at q
  cases o with
  | none =>
   have q1 : z=y:=congrArg Prod.fst q
   subst q1; exact .inl (loadR_st hz)
  | some u =>
   have hns:=loadR_ns hz
   obtain ⟨k1,k2,k3,_⟩:=ok_load hx (show loadR c x=out z u by rw [hz,out_some hns])
   have:=((hk u).ok (k1.less ha) q).2.2.1
   exact .inr ⟨rfl,by have:=(k3 hns).1; omega⟩
theorem lt_read {t : Trie} {i v : Int} {j : Nat} (hx : Ok j x) (q : runI (readI t i) x=out y v) : y.e.stopped=true∨x.e.stopped=false∧y.left<x.left :=
 lt_load (c:=(x.node i).main) (k:=fun m=>settleI t i m) hx (fun m=>good_settle t i m) (by omega) q
theorem good_help' (t : Trie) (v : Int) : GoodB 129 60 (.node v fun d=>bif d.kind==2 then .ret v else .node v fun d=>.load d.status fun s=>bif s==0 then (decideI t v).bind fun _=>.node v fun d=>.load d.status fun s=>wonI t v s else wonI t v s) :=
 fun j L hj M d hM hd=>Cst.bif (fun _=>⟨by omega,hM,trivial⟩) fun _ M2 d2 hM2 hd2 s =>
  Cst.bif (fun _=>(good_decide t v).then (by omega) fun j' L' _ hj' hL' _ M4 d4 hM4 hd4 s2=>(good_won t v s2).at (by omega) (by omega)) fun _=>(good_won t v s).at (by omega) (by omega)
theorem lt_help {t : Trie} {v : Int} {j : Nat} (hx : Ok j x) (hj : 30≤j) (q : runI (helpI t) x=out y v) : y.e.stopped=true∨x.e.stopped=false∧y.left<x.left :=
 lt_load (c:=t.root) hx (fun v=>good_help' t v) (by omega) q
theorem le_good {α : Type} {a b : Nat} {t : I α} {Q : α→Prop} {v : α} {j : Nat} (h : GoodB a b t Q) (hx : Ok j x) (ha : a≤j) (q : runI t x=out y v) : y.left≤x.left:=(h.ok (hx.less ha) q).2.2.1
end Go.Ct
end
section
namespace Go.Ct
variable {g : Ga}
theorem isL_ok {n : Node} {b : Lab} (hn : NodeOk g n b) (hk : n.kind=6) : n.isL=true:=by unfold Node.isL; rw [hk,hn.valid]; rfl
theorem ok_grown {n : Node} {b : Lab} {key : ByteArray} {v : Nat} (hn : NodeOk g n b) (hk : n.kind=6) (hs : key.size≤64) : NodeOk g (grown n key v).1 b∧(grown n key v).2=true∧(grown n key v).1.isMain=true:=by
 have hL:=isL_ok hn hk
 have vf:=valid_vf hn.valid
 rw [gr_yes hL (by omega)]
 have hp:=vf.sorted hk
 have h2:=vf.pairs hk
 refine ⟨ok_list hn.hash (by have:=(pput_len n.pairs key v hp).1; omega) (pput_sorted _ _ _ hp) (fun q hq=>pput_keys n.pairs key v (fun k=>k.size≤64) ((keysShort_iff _).1 (vf.short hk)) hs q hq) (hn.l hk),rfl,rfl⟩
structure Kl (g : Ga) (again : I Result) (k' : Result × Int→I Result) : Prop where
 fin : ∀ g',Ge g g'→GW g'→∀ r : Result,r.trie={}→Sm (.ret r) (k' (r,1)) g'
 rep : ∀ g',Ge g g'→GW g'→∀ r,Sm again (k' (r,0)) g'
theorem Kl.ge {again : I Result} {k' : Result × Int→I Result} {g' : Ga} (h : Kl g again k') (hg : Ge g g') : Kl g' again k' :=⟨fun g2 h2=>h.fin g2 (hg.trans h2),fun g2 h2=>h.rep g2 (hg.trans h2)⟩
variable {c : Call} {again : I Result} {k' : Result × Int→I Result}
theorem sm_swapped {f : Bool} {v : Nat} (hw : GW g) (hk : Kl g again k') (ok : Bool) : Sm (bif !ok then again else .ret (swappedR f v)) ((swappedI f v ok).bind k') g:=by
 cases ok with
 | true=>exact hk.fin g (Ge.refl hw) hw _ rfl
 | false=>exact hk.rep g (Ge.refl hw) hw _
theorem sm_repl {i m : Int} {n : Node × Bool} {f : Bool} {v : Nat} {b : Lab} (hw : GW g) (ht : Tk g c.trie) (hi : isI g i b) (hm : isM g m b) (hn : NodeOk g n.1 b∧n.2=true∧n.1.isMain=true) (hk : Kl g again k') :
  Sm (replT c again i m n f v) ((I.alloc n.1 m fun r=>(gcasI c.trie i m r).bind (swappedI f v)).bind k') g:=by
 refine Sm.ff (by rw [hn.2.1]; rfl) (.alloc b hn.1 (init_main hn.2.2 (.inr hm)) fun h1 hw1=>?_)
 refine Sm.as (u:=gcasI c.trie i m _) (sm_swap hw1 (ht.ge h1) (hi.ge h1) (alloc_isM hw hn.2.2) fun g2 h2 hw2 ok=>?_)
 exact sm_swapped hw2 (hk.ge (h1.trans h2)) ok
theorem sm_replU {i m ix r : Int} {n : Node} {f : Bool} {v : Nat} {b : Lab} (hw : GW g) (ht : Tk g c.trie) (hi : isI g i b) (hm : isM g m b) (he : n=g.node m) (hl : (blookup n ix).2=true) (hr : isI g r (deeper b ix)∨isS g r (deeper b ix)) (hk : Kl g again k') :
  Sm (replT c again i m (pupdated n ix r) f v) (((replaceI m ix r).bind fun r=>(gcasI c.trie i m r).bind (swappedI f v)).bind k') g:=by
 subst he
 unfold replaceI
 refine .nr hm.in_ ?_
 exact sm_repl hw ht hi hm (ok_updated (hw.ofM hm) (bl_kind hl) hl hr) hk
theorem single_isS {h v : Nat} {key : ByteArray} {ix : Int} {b : Lab} (e : deeper b ix=(b.1+1,h % 64 ^ (b.1+1))) : isS (g.alloc { kind:=4,hash:=h,key:=key,value:=v } 0 (0,0)) (g.nodes.length+3) (deeper b ix) :=
 alloc_isS rfl (by rw [e])
theorem keyEq_comm (a b : ByteArray) : keyEq a b=keyEq b a:=by unfold keyEq; exact Bool.beq_comm
theorem sm_putList {i m : Int} {h : Nat} {level gen : Int} {b : Lab} (hw : GW g) (ht : Tk g c.trie) (hi : isI g i b) (hm : isM g m b) (hk6 : (g.node m).kind=6) (hkey : c.key.size≤64) (hk : Kl g again k') :
  Sm (putListT c again i m (g.node m)) ((putLeafI c i m h level gen).bind k') g:=by
 unfold putListT putLeafI
 refine .nr hm.in_ ?_
 dsimp only
 rw [show ((g.node m).kind==6)=true by rw [hk6]; rfl]
 cases hp : permitsC c (pfind (g.node m).pairs c.key).2 (pfind (g.node m).pairs c.key).1 with
 | false=>exact hk.fin g (Ge.refl hw) hw _ rfl
 | true=>exact sm_repl hw ht hi hm (ok_grown (hw.ofM hm) hk6 hkey) hk
theorem zero_in (g : Ga) : (0 : Int)≤g.count:=by unfold Ga.count; omega
theorem sm_added {i m : Int} {h l : Nat} {gen : Int} (hw : GW g) (ht : Tk g c.trie) (hi : isI g i (l,h % 64 ^ l)) (hm : isM g m (l,h % 64 ^ l)) (hk3 : (g.node m).kind=3) (hl : (blookup (g.node m) (slice h l)).2=false) (hh : h<18446744073709551616) (hkey : c.key.size≤64) (hk : Kl g again k') :
  Sm (addedT c again h i m (g.node m) (slice h l)) ((putLeafI c i m h l gen).bind k') g:=by
 unfold addedT putLeafI
 refine .nr hm.in_ ?_
 dsimp only
 have hz : (blookup (g.node m) (slice h l)).1=0:=by
  rcases bl_no hl with q | q
  ·rw [bl_no1 q]
  ·rw [bl_no2 q]
 rw [show ((g.node m).kind==6)=false by rw [hk3]; rfl,hl,hz]
 refine .nr (zero_in g) ?_
 have hl10:=((hw.ofM hm).c hk3).1
 have hs:=slice_lt h l
 cases hp : permitsC c false 0 with
 | false=>exact hk.fin g (Ge.refl hw) hw _ rfl
 | true =>
  refine .alloc (0,0) (ok_key (.inl rfl) hh hkey (fun h=>by cases h)) (init_none (.inl rfl)) fun h1 hw1=>?_
  exact sm_repl hw1 (ht.ge h1) (hi.ge h1) (hm.ge h1) (ok_inserted ((hw.ofM hm).ge h1) hk3 hl hs.1 hs.2 (.inr (single_isS (deeper_slice hl10)))) (hk.ge h1)
theorem sm_single {i m : Int} {h l : Nat} {gen : Int} (hw : GW g) (ht : Tk g c.trie) (hi : isI g i (l,h % 64 ^ l)) (hm : isM g m (l,h % 64 ^ l)) (hl : (blookup (g.node m) (slice h l)).2=true) (hs : isS g (blookup (g.node m) (slice h l)).1 (deeper (l,h % 64 ^ l) (slice h l))) (hh : h<18446744073709551616) (hkey : c.key.size≤64)
  (hg1 : 1≤gen) (hg : gen≤g.gen) (hk : Kl g again k') :
  Sm (putSingleT c again h i m (g.node m) (slice h l) (blookup (g.node m) (slice h l)).1 (g.node (blookup (g.node m) (slice h l)).1) l gen) ((putLeafI c i m h l gen).bind k') g:=by
 have hk3:=bl_kind hl
 have hl10:=((hw.ofM hm).c hk3).1
 have ed:=deeper_slice (h:=h) (l:=l) hl10
 generalize hb : (blookup (g.node m) (slice h l)).1=b at *
 unfold putSingleT putLeafI
 refine .nr hm.in_ ?_
 dsimp only
 rw [show ((g.node m).kind==6)=false by rw [hk3]; rfl,hl,hb]
 refine .nr hs.in_ ?_
 dsimp only
 rw [show ((g.node b).kind==2)=false by rw [hs.1]; rfl]
 cases hq : keyEq (g.node b).key c.key with
 | true =>
  cases hp : permitsC c true (g.node b).value with
  | false=>exact hk.fin g (Ge.refl hw) hw _ rfl
  | true =>
   refine .alloc (0,0) (ok_key (.inl rfl) hh hkey (fun h=>by cases h)) (init_none (.inl rfl)) fun h1 hw1=>?_
   exact sm_replU hw1 (ht.ge h1) (hi.ge h1) (hm.ge h1) (by rw [h1.node hm.in_]) hl (.inr (single_isS ed)) (hk.ge h1)
 | false =>
  cases hp : permitsC c false 0 with
  | false=>exact hk.fin g (Ge.refl hw) hw _ rfl
  | true =>
   refine Sm.ff rfl ?_
   unfold buildT
   rw [show (decide ((l : Int)+1<0) || (decide ((l : Int)+1>11) || decide (gen<1)))=false by simp; omega]
   refine Sm.ff rfl (.nl hs.in_ ?_)
   rw [show ((g.node b).kind != 4)=false by rw [hs.1]; rfl,show decide (64<c.key.size)=false from decide_eq_false (by omega),keyEq_comm,hq]
   have hS : isS g b (l+1,h % 64 ^ (l+1)):=by rw [← ed]; exact hs
   have hcg:=common_ge (a:=(g.node b).hash) (b:=h) (c:=l+1) hS.2 (by omega)
   refine Sm.ff rfl (Sm.ff (decide_eq_false (by omega)) ?_)
   rw [show (11 - ((l : Int)+1)).toNat=11 - (l+1) by omega]
   refine Sm.as (u:=dualI (g.node b) b h c.key c.value ((l+1 : Nat) : Int) gen) (sm_dual hw rfl hS (by omega) hh hkey hq hg1 hg fun g1 h1 hw1 s hs1=>?_)
   refine Sm.ff rfl (.alloc (l+1,h % 64 ^ (l+1)) (ok_inner hg1 (by have:=h1.gen; omega) (by show l+1≤11; omega)) ⟨fun _=>hs1,(fun h=>by cases h),fun h=>by cases h⟩ fun h2 hw2=>?_)
   have hI:=alloc_isI hw1 (n:={ kind:=2,gen:=gen }) (i:=s) (b:=(l+1,h % 64 ^ (l+1))) rfl
   have hg2:=h1.trans h2
   exact sm_replU hw2 (ht.ge hg2) (hi.ge hg2) (hm.ge hg2) (by rw [hg2.node hm.in_]) hl (.inl (by rw [ed]; exact hI)) (hk.ge hg2)
end Go.Ct
end
