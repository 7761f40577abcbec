/- Parts of a proof: Sb, C4, Sa2. -/
import Derived.Test.YtmliojdkmfhmmaaGreatW22
import Derived.Test.YtmliojdkmfhmmaaGreatW19
import Derived.Test.YtmliojdkmfhmmaaGreatW12
set_option linter.unusedVariables false
set_option linter.unusedSimpArgs false
set_option maxRecDepth 100000
set_option maxHeartbeats 4000000
section
namespace Go.Ct
variable {g : Ga}
theorem pop_agree {a b : Nat} : ∀ j,(∀ i,i<j→a.testBit i=b.testBit i)→Bm.pop j a=Bm.pop j b
 | 0,_=>by simp [Bm.pop]
 | j+1,h=>by rw [Bm.pop_testBit,Bm.pop_testBit,pop_agree j fun i hi=>h i (by omega),h j (by omega)]
theorem bat_pos {n : Node} {i r : Int} {k : Nat} (h : (bat n i r k).2=true) : 1≤(bat n i r k).1:=by
 unfold bat at h ⊢
 split at h
 ·rename_i e; rw [if_pos e]; have:=of_decide_eq_true h; show 1≤r; omega
 ·rename_i e; rw [if_neg e]; exact blookup_pos h
theorem bbuild_get (n : Node) (i r : Int) : ∀ k,k≤64→(∀ j,(bbuild n i r k).1.testBit j=(decide (j<k) && (bat n i r j).2))∧(bbuild n i r k).2.length=Bm.pop k (bbuild n i r k).1 ∧
  (∀ j,j<k→(bat n i r j).2=true→(bbuild n i r k).2.getD (Bm.pop j (bbuild n i r k).1) 0=(bat n i r j).1)∧∀ x ∈ (bbuild n i r k).2,1≤x
 | 0,_=>⟨fun j=>by simp [bbuild],by simp [bbuild,Bm.pop],fun j hj=>absurd hj (Nat.not_lt_zero _),fun x hx=>by simp [bbuild] at hx⟩
 | k+1,hk=>by
  obtain ⟨h1,h2,h3,h4⟩:=bbuild_get n i r k (by omega)
  rw [bbuild]
  cases hb : (bat n i r k).2 with
  | true =>
   simp only [cond_true]
   have hbit : ∀ j,(Bm.withE (bbuild n i r k).1 k).testBit j=(decide (k=j) || (bbuild n i r k).1.testBit j):=fun j=>by
    rw [Bm.testBit_withE _ k (by omega)]
    by_cases hj : k=j <;> simp [hj]
   have hpop : ∀ j,j≤k→Bm.pop j (Bm.withE (bbuild n i r k).1 k)=Bm.pop j (bbuild n i r k).1:=fun j hj=>pop_agree j fun i hi=>by rw [hbit]; simp [show k≠i by omega]
   refine ⟨fun j=>?_,?_,fun j hj hj2=>?_,fun x hx=>?_⟩
   ·rw [hbit,h1]
    by_cases hj : k=j
    ·subst hj; simp [hb]
    ·by_cases hjk : j<k
     ·simp [hj,hjk,show j<k+1 by omega]
     ·simp [hj,hjk,show ¬ j<k+1 by omega]
   ·rw [List.length_append,List.length_singleton,h2,Bm.pop_testBit,hpop k (Nat.le_refl _),hbit]; simp
   ·rw [hpop j (by omega)]
    by_cases hjk : j=k
    ·subst hjk
     rw [← h2,List.getD_eq_getElem?_getD,List.getElem?_append_right (Nat.le_refl _)]; simp
    ·have hlt : Bm.pop j (bbuild n i r k).1<(bbuild n i r k).2.length:=by
      rw [h2]; exact pop_bit (by rw [h1]; simp [hj2]; omega) (by omega)
     rw [List.getD_eq_getElem?_getD,List.getElem?_append_left hlt,← List.getD_eq_getElem?_getD]
     exact h3 j (by omega) hj2
   ·rcases List.mem_append.1 hx with hx | hx
    ·exact h4 x hx
    ·rw [List.mem_singleton.1 hx]; exact bat_pos hb
  | false =>
   simp only [cond_false]
   refine ⟨fun j=>?_,?_,fun j hj hj2=>?_,h4⟩
   ·rw [h1]
    by_cases hj : k=j
    ·subst hj; simp [hb]
    ·by_cases hjk : j<k
     ·simp [hjk,show j<k+1 by omega]
     ·simp [hjk,show ¬ j<k+1 by omega]
   ·rw [h2,Bm.pop_testBit,h1]; simp
   ·by_cases hjk : j=k
    ·subst hjk; rw [hb] at hj2; cases hj2
    ·exact h3 j (by omega) hj2
theorem bnode_valid (n : Node) (i r : Int) : (bnode n i r).valid=true:=by
 obtain ⟨h1,h2,h3,h4⟩:=bbuild_get n i r 64 (Nat.le_refl _)
 show Node.valid { kind:=3,bitmap:=(bbuild n i r 64).1,branches:=(bbuild n i r 64).2,prev:=0 }=true
 rw [valid_C _ _ 0 (Int.le_refl _)]
 simp only [Bool.and_eq_true,List.all_eq_true,decide_eq_true_eq,beq_iff_eq]
 exact ⟨h4,h2⟩
theorem bnode_isC (n : Node) (i r : Int) : (bnode n i r).isC=true:=by
 unfold Node.isC; rw [bnode_valid]; rfl
theorem bnode_lookup (n : Node) (i r : Int) {k : Int} (h : (blookup (bnode n i r) k).2=true) : ∃ j : Nat,k=j∧j<64∧(bat n i r j).2=true∧(blookup (bnode n i r) k).1=(bat n i r j).1:=by
 obtain ⟨h1,h2,h3,h4⟩:=bbuild_get n i r 64 (Nat.le_refl _)
 have hh:=(bl_isC h).2
 have hi : 0≤k∧k<64:=by unfold Bm.has at hh; simp at hh; omega
 obtain ⟨j,rfl⟩:=Int.eq_ofNat_of_zero_le hi.1
 have hj : j<64:=by omega
 have hb : (bbuild n i r 64).1.testBit j=true:=by rw [← Bm.has_nat _ _ hj]; exact hh
 rw [h1] at hb
 simp [hj] at hb
 refine ⟨j,rfl,hj,hb,?_⟩
 rw [blookup_at (bnode_isC n i r) hj]
 show (if (bbuild n i r 64).1.testBit j=true then _ else _ : Int × Bool).1=_
 rw [if_pos (by rw [h1]; simp [hj,hb])]
 exact h3 j hj hb
theorem ok_built {n : Node} {i r : Int} {b : Lab} (hb : b.1≤10) (hb2 : b.2<64 ^ b.1) (hc : ∀ k : Nat,k<64→(bat n i r k).2=true→isI g (bat n i r k).1 (deeper b k)∨isS g (bat n i r k).1 (deeper b k)) : NodeOk g (bnode n i r) b:=by
 obtain ⟨h1,h2,h3,h4⟩:=bbuild_get n i r 64 (Nat.le_refl _)
 refine ⟨bnode_valid n i r,⟨0,fit_C 0 _ _ (bbuild_lt n i r 64).1 h4 h2⟩,by show (2 : Int)≤3; decide,by show (3 : Int)≤8; decide,(fun h=>by cases h),fun _=>⟨hb,hb2,fun k hk=>?_⟩,(fun h=>by cases h),(fun h=>by cases h),(fun h=>by cases h),fun h=>by cases h⟩
 obtain ⟨j,rfl,hj,e1,e2⟩:=bnode_lookup n i r hk
 rw [e2]; exact hc j hj e1
theorem Node.Fit.bm {L : Nat} {n : Node} (h : n.Fit L) : n.bitmap<18446744073709551616:=h.1.2.2.1
theorem bat_ne {n : Node} {i r : Int} {k : Nat} (h : (k : Int)≠i) : bat n i r k=blookup n k:=by unfold bat; rw [if_neg h]
theorem ok_bat {n : Node} {b : Lab} {i r : Int} (hn : NodeOk g n b) (hk : n.kind=3) (hr : r=0∨isI g r (deeper b i)∨isS g r (deeper b i)) : ∀ k : Nat,k<64→(bat n i r k).2=true→isI g (bat n i r k).1 (deeper b k)∨isS g (bat n i r k).1 (deeper b k):=fun k hk2 h=>by
 by_cases e : (k : Int)=i
 ·unfold bat at h ⊢
  rw [if_pos e] at h ⊢
  have:=of_decide_eq_true h
  rcases hr with hr | hr
  ·omega
  ·rw [e]; exact hr
 ·rw [bat_ne e] at h ⊢
  exact (hn.c hk).2.2 k h
theorem ok_updated {n : Node} {b : Lab} {i r : Int} (hn : NodeOk g n b) (hk : n.kind=3) (h : (blookup n i).2=true) (hr : isI g r (deeper b i)∨isS g r (deeper b i)) : NodeOk g (pupdated n i r).1 b∧(pupdated n i r).2=true∧(pupdated n i r).1.isMain=true:=by
 obtain ⟨L,hL⟩:=hn.fit
 rw [build_updated hL.bm h (hr.elim isI.one isS.one)]
 exact ⟨ok_built (hn.c hk).1 (hn.c hk).2.1 (ok_bat hn hk (.inr hr)),rfl,rfl⟩
theorem isC_ok {n : Node} {b : Lab} (hn : NodeOk g n b) (hk : n.kind=3) : n.isC=true:=by unfold Node.isC; rw [hk,hn.valid]; rfl
theorem ok_inserted {n : Node} {b : Lab} {i r : Int} (hn : NodeOk g n b) (hk : n.kind=3) (h : (blookup n i).2=false) (h0 : 0≤i) (h1 : i<64) (hr : isI g r (deeper b i)∨isS g r (deeper b i)) : NodeOk g (pinserted n i r).1 b∧(pinserted n i r).2=true∧(pinserted n i r).1.isMain=true:=by
 obtain ⟨L,hL⟩:=hn.fit
 rw [build_inserted hL.bm (isC_ok hn hk) h h0 (by omega) (hr.elim isI.one isS.one)]
 exact ⟨ok_built (hn.c hk).1 (hn.c hk).2.1 (ok_bat hn hk (.inr hr)),rfl,rfl⟩
theorem ok_removed {n : Node} {b : Lab} {i : Int} (hn : NodeOk g n b) (hk : n.kind=3) (h : (blookup n i).2=true) : NodeOk g (premoved n i).1 b∧(premoved n i).1.kind=3:=by
 obtain ⟨L,hL⟩:=hn.fit
 rw [build_removed hL.bm h]
 exact ⟨ok_built (hn.c hk).1 (hn.c hk).2.1 (ok_bat hn hk (.inl rfl)),rfl⟩
theorem ok_key {k : Int} {h v : Nat} {key : ByteArray} {b : Lab} (hk : k=4∨k=5) (hh : h<18446744073709551616) (hs : key.size≤64) (ht : k=5→1≤b.1∧h % 64 ^ b.1=b.2) : NodeOk g { kind:=k,hash:=h,key:=key,value:=v } b:=by
 refine ⟨?_,⟨0,fit_key 0 k h key v (by omega) hh hs⟩,by show 2≤k; omega,by show k≤8; omega,fun e=>absurd (show k=2 from e) (by omega),fun e=>absurd (show k=3 from e) (by omega),ht,fun e=>absurd (show k=6 from e) (by omega),fun e=>absurd (show k=7 from e) (by omega),fun e=>absurd (show k=8 from e) (by omega)⟩
 unfold Node.valid
 rcases hk with rfl | rfl <;> simp [nodeEq,Node.only,keyEq,pairsEq,hs]
theorem NodeOk.hash {n : Node} {b : Lab} (h : NodeOk g n b) : n.hash<18446744073709551616:=by obtain ⟨L,hL⟩:=h.fit; exact hL.1.2.2.2.1
theorem NodeOk.key {n : Node} {b : Lab} (h : NodeOk g n b) : n.key.size≤64:=by obtain ⟨L,hL⟩:=h.fit; exact hL.2
theorem deeper_mod {b : Lab} {i : Int} {h : Nat} (hb : b.2<64 ^ b.1) (e : h % 64 ^ (deeper b i).1=(deeper b i).2) : h % 64 ^ b.1=b.2:=by
 have e1 : h % 64 ^ (b.1+1)=b.2+i.toNat * 64 ^ b.1:=e
 rw [← Nat.mod_mod_of_dvd h (Nat.pow_dvd_pow 64 (Nat.le_succ b.1)),e1,Nat.add_mul_mod_self_right,Nat.mod_eq_of_lt hb]
theorem ok_contracted {c s : Node} {b : Lab} {i l : Int} (hc : NodeOk g c b) (hk : c.kind=3) (hs : s.kind=4→s.hash<18446744073709551616∧s.key.size≤64∧s.hash % 64 ^ (deeper b i).1=(deeper b i).2) (hl : l=(b.1 : Int)) : NodeOk g (contracted c l s) b∧(contracted c l s).isMain=true:=by
 unfold contracted
 split
 ·rename_i h
  obtain ⟨s1,s2,s3⟩:=hs h.2.2
  exact ⟨ok_key (.inr rfl) s1 s2 fun _=>⟨by omega,deeper_mod (hc.c hk).2.1 s3⟩,rfl⟩
 ·exact ⟨hc,by unfold Node.isMain; rw [hk]; rfl⟩
theorem untombed_ok {n : Node} {b : Lab} (hn : NodeOk g n b) (h : (untombed n).2=true) : NodeOk g (untombed n).1 b∧(untombed n).1.kind=4∧(untombed n).1.hash % 64 ^ b.1=b.2:=by
 unfold untombed at h ⊢
 split at h
 ·rename_i hk; rw [if_pos hk]; exact ⟨ok_key (.inl rfl) hn.hash hn.key (fun h=>by cases h),rfl,(hn.t hk).2⟩
 ·cases h
theorem main_kind {n : Node} (hm : n.isMain=true) : n.kind=3∨n.kind=5∨n.kind=6:=by unfold Node.isMain at hm; simpa [or_assoc] using hm
theorem init_main {n : Node} {i : Int} {b : Lab} (hm : n.isMain=true) (h : i=0∨isM g i b) : InitOk g n i b:=by
 have hk:=main_kind hm
 exact ⟨fun e=>absurd e (by omega),fun _=>h,fun e=>absurd e (by omega)⟩
theorem init_none {n : Node} {i : Int} {b : Lab} (hk : n.kind=4∨n.kind=7) : InitOk g n i b :=
 ⟨fun e=>absurd e (by omega),fun e=>absurd (main_kind e) (by omega),fun e=>absurd e (by omega)⟩
theorem slice_lt (h : Nat) (l : Int) : 0≤slice h l∧slice h l<64:=slice_range h l
theorem deeper_slice {h l : Nat} (hl : l≤10) : deeper (l,h % 64 ^ l) (slice h l)=(l+1,h % 64 ^ (l+1)):=by
 unfold deeper slice
 rw [if_neg (by omega)]
 simp only [Prod.mk.injEq,true_and]
 rw [Int.toNat_natCast,Int.toNat_natCast,Nat.pow_succ,Nat.mod_mul,Nat.mul_comm (64 ^ l)]
end Go.Ct
end
section
namespace Go.Ct
variable {β : Type}
def pairT (key : ByteArray) (x : Node) : I Result:=bif keyEq x.key key then .ret (valueR true x.value) else .ret {}
def descT (t : Trie) (key : ByteArray) (h : Nat) : Nat→Int→Int→I Result
 | 0,_,_=>.ret {}
 | n+1,i,level=>readT t i fun r=>.node r fun m =>
  bif m.kind==3 then bif !(blookup m (slice h level)).2 then .ret {} else .node (blookup m (slice h level)).1 fun x=>bif x.kind==4 then pairT key x else descT t key h n (blookup m (slice h level)).1 (level+1)
  else bif m.kind==5 then pairT key m else bif m.kind==6 then bif (pfind m.pairs key).2 then .ret (valueR true (pfind m.pairs key).1) else .ret {} else .ret {}
def lookupT (c : Call) (n : Nat) : I Result:=bif !keyValid c.key then .ret { err:=1 } else helpT c.trie fun r=>descT c.trie c.key (hashOf c.key c.mask) n r 0
def replT (c : Call) (again : I Result) (i m : Int) (n : Node × Bool) (found : Bool) (v : Nat) : I Result :=
 bif !n.2 then .ret {} else .alloc n.1 m fun r=>swapT c.trie i m r fun ok=>bif !ok then again else .ret (swappedR found v)
def putListT (c : Call) (again : I Result) (i m : Int) (n : Node) : I Result :=
 bif !permitsC c (pfind n.pairs c.key).2 (pfind n.pairs c.key).1 then .ret (valueR (pfind n.pairs c.key).2 (pfind n.pairs c.key).1)
 else replT c again i m (grown n c.key c.value) (pfind n.pairs c.key).2 (pfind n.pairs c.key).1
def addedT (c : Call) (again : I Result) (h : Nat) (i m : Int) (n : Node) (ix : Int) : I Result :=
 bif !permitsC c false 0 then .ret (valueR false 0) else .alloc { kind:=4,hash:=h,key:=c.key,value:=c.value } 0 fun x=>replT c again i m (pinserted n ix x) false 0
def mainT (x : Node) (at_ : Int) (h : Nat) (key : ByteArray) (v : Nat) (gen : Int) : Nat→(Int→I β)→I β
 | 0,k=>.alloc { kind:=6,hash:=h,pairs:=pof2 ⟨x.key,x.value⟩ ⟨key,v⟩ } 0 k
 | n+1,k=>bif slice h (11 - ((n+1 : Nat) : Int)) != slice x.hash (11 - ((n+1 : Nat) : Int)) then
   .alloc { kind:=4,hash:=h,key:=key,value:=v } 0 fun s=>.alloc (pinserted (pinserted { kind:=3 } (slice x.hash (11 - ((n+1 : Nat) : Int))) at_).1 (slice h (11 - ((n+1 : Nat) : Int))) s).1 0 k
  else mainT x at_ h key v gen n fun m=>.alloc { kind:=2,gen:=gen } m fun i=>.alloc (pinserted { kind:=3 } (slice h (11 - ((n+1 : Nat) : Int))) i).1 0 k
def buildT (at_ : Int) (h : Nat) (key : ByteArray) (v : Nat) (level gen : Int) (k : Int→Int→I β) : I β :=
 bif decide (level<0) || (decide (level>11) || decide (gen<1)) then k 0 2 else .node at_ fun x =>
  bif x.kind != 4 || (decide (64<key.size) || keyEq key x.key) then k 0 1 else bif decide ((commonOf x.hash h : Int)<level) then k 0 1 else mainT x at_ h key v gen (11 - level).toNat fun r=>k r 0
def putSingleT (c : Call) (again : I Result) (h : Nat) (i m : Int) (n : Node) (ix b : Int) (x : Node) (level gen : Int) : I Result :=
 bif keyEq x.key c.key then
  bif !permitsC c true x.value then .ret (valueR true x.value) else .alloc { kind:=4,hash:=h,key:=c.key,value:=c.value } 0 fun y=>replT c again i m (pupdated n ix y) true x.value
 else bif !permitsC c false 0 then .ret (valueR false 0) else buildT b h c.key c.value (level+1) gen fun s e=>bif e != 0 then .ret { err:=e } else
  .alloc { kind:=2,gen:=gen } s fun j=>replT c again i m (pupdated n ix j) false 0
def visitT (c : Call) (h : Nat) (gen : Int) (again : I Result) : Nat→Int→Int→Int→I Result
 | 0,_,_,_=>again
 | k+1,parent,i,level=>readT c.trie i fun m=>.node m fun n =>
  bif n.kind==5 then cleanT c.trie parent i h (level - 1) fun _=>again
  else bif n.kind==6 then putListT c again i m n
  else bif n.kind==3 then
   bif !(blookup n (slice h level)).2 then addedT c again h i m n (slice h level) else .node (blookup n (slice h level)).1 fun x =>
    bif x.kind==4 then putSingleT c again h i m n (slice h level) (blookup n (slice h level)).1 x level gen
    else bif x.gen != gen then renewT c.trie i m (slice h level) fun b=>bif b==0 then again else visitT c h gen again k i b (level+1)
    else visitT c h gen again k i (blookup n (slice h level)).1 (level+1)
  else .ret {}
def startT (c : Call) (k : Nat) : Nat→I Result
 | 0=>.ret {}
 | n+1=>helpT c.trie fun r=>.node r fun a=>visitT c (hashOf c.key c.mask) a.gen (startT c k n) k 0 r 0
def setT (c : Call) (n : Nat) : I Result:=bif !keyValid c.key || (decide (c.policy<0) || decide (c.policy>3)) then .ret { err:=1 } else startT c n n
def upT (c : Call) (path : List Int) (h v : Nat) : Nat→I Result
 | 0=>.ret (swappedR true v)
 | l+1=>readT c.trie (path.getD (l+1) 0) fun m=>.node m fun n=>bif n.kind != 5 then .ret (swappedR true v) else
  cleanT c.trie (path.getD l 0) (path.getD (l+1) 0) h l fun _=>upT c path h v l
def dropReplT (c : Call) (again : I Result) (path : List Int) (h : Nat) (i m : Int) (n : Node) (v : Nat) : I Result :=
 .alloc n m fun r=>swapT c.trie i m r fun ok=>bif !ok then again else upT c path h v (path.length - 1)
def meantC (c : Call) (v : Nat) : Bool:=!c.only || v==c.expect
def dropListT (c : Call) (again : I Result) (path : List Int) (h : Nat) (i m : Int) (n : Node) : I Result :=
 bif !(pfind n.pairs c.key).2 then .ret {} else bif !meantC c (pfind n.pairs c.key).1 then .ret (valueR true (pfind n.pairs c.key).1)
 else bif !(shrunk n c.key).2 then .ret {} else dropReplT c again path h i m (shrunk n c.key).1 (pfind n.pairs c.key).1
def dropAtT (c : Call) (again : I Result) (path : List Int) (h : Nat) (i m : Int) (n : Node) (level : Int) (x : Node) : I Result :=
 bif !keyEq x.key c.key then .ret {} else bif !meantC c x.value then .ret (valueR true x.value)
 else bif (bsole (premoved n (slice h level)).1).2 then .node (bsole (premoved n (slice h level)).1).1 fun q=>dropReplT c again path h i m (contracted (premoved n (slice h level)).1 level q) x.value
 else dropReplT c again path h i m (contracted (premoved n (slice h level)).1 level {}) x.value
def dropVisitT (c : Call) (h : Nat) (gen : Int) (again : I Result) : Nat→List Int→Int→Nat→I Result
 | 0,_,_,_=>again
 | k+1,path,i,level=>readT c.trie i fun m=>.node m fun n =>
  bif n.kind==5 then cleanT c.trie (bif decide (0<level) then path.getD (level - 1) 0 else 0) i h ((level : Int) - 1) fun _=>again
  else bif n.kind==6 then dropListT c again path h i m n
  else bif n.kind==3 then
   bif !(blookup n (slice h level)).2 then .ret {} else .node (blookup n (slice h level)).1 fun x =>
    bif x.kind==4 then dropAtT c again path h i m n level x
    else bif x.gen != gen then renewT c.trie i m (slice h level) fun b=>bif b==0 then again else dropVisitT c h gen again k (path ++ [b]) b (level+1)
    else dropVisitT c h gen again k (path ++ [(blookup n (slice h level)).1]) (blookup n (slice h level)).1 (level+1)
  else .ret {}
def dropStartT (c : Call) (k : Nat) : Nat→I Result
 | 0=>.ret {}
 | n+1=>helpT c.trie fun r=>.node r fun a=>dropVisitT c (hashOf c.key c.mask) a.gen (dropStartT c k n) k [r] r 0
def removeT (c : Call) (n : Nat) : I Result:=bif !keyValid c.key then .ret { err:=1 } else dropStartT c n n
def progT (c : Call) (n : Nat) : I Result :=
 if c.kind=7 then lookupT c n else if c.kind=8 then setT c n else if c.kind=9 then removeT c n
 else if c.kind=10 then snapshotT c.trie n else if c.kind=11 then freezeT c.trie n else clearT c.trie n
end Go.Ct
end
section
namespace Go.Ct
variable {β : Type} {g : Ga} [Qc β]
theorem q0 {r : Result} (h : r.trie={}) : Qc.q g r:=.inl (by rw [h]; exact Int.le_refl 0)
theorem gen_ge {g g' : Ga} (h : Ge g g') : g.gen≤g'.gen:=h.gen
theorem sm_clear {t : Trie} (hro : t.readOnly=false) : ∀ (n : Nat) (g : Ga),GW g→Tk g t→Sm (clearT t n) (clearI t n) g
 | 0,g,hw,ht=>.ret _ g (q0 rfl)
 | n+1,g,hw,ht=>sm_help hw ht fun g1 h1 hw1 r hr=>sm_read hw1 (ht.ge h1) hr fun g2 h2 hw2 m hm=>.alloc (0,0) (ok_empty (by decide) (by decide)) ⟨(fun h=>by cases h),(fun _=>.inl rfl),fun h=>by cases h⟩ fun h3 hw3 =>
  .gen fun h4 hw4=>.alloc (0,0) (ok_inner (by omega) (by show _≤((_+1 : Nat) : Int); omega) (by decide)) ⟨fun _=>(alloc_isM hw2 rfl).ge h4,(fun h=>by cases h),fun h=>by cases h⟩ fun h5 hw5=>by
   have hg:=h3.trans (h4.trans h5)
   refine sm_replace hw5 (ht.ge (h1.trans (h2.trans hg))) hro (hr.ge (h2.trans hg)) (hm.ge hg) (alloc_isI hw4 rfl) fun g6 h6 hw6 ok=>?_
   cases ok with
   | true=>exact .ret _ _ (q0 rfl)
   | false=>exact sm_clear hro n g6 hw6 (ht.ge (h1.trans (h2.trans (hg.trans h6))))
theorem sm_copied {m : Int} (hw : GW g) (hm : isM g m (0,0)) : Sm (copiedT m) (copiedI m) g :=
 .gen fun h1 hw1=>.alloc (0,0) (ok_inner (by omega) (by show _≤((_+1 : Nat) : Int); omega) (by decide)) ⟨fun _=>hm.ge h1,(fun h=>by cases h),fun h=>by cases h⟩ fun h2 hw2=>.cell .root (.inl rfl) (alloc_isI hw1 rfl) fun h3 hw3=>.ret _ _ (.inr (cty_last _ _ _))
theorem sm_frozen {r : Int} (hw : GW g) (hr : isI g r (0,0)) : Sm (frozenT r) (frozenI r) g:=.cell .fixed (.inr rfl) hr fun h3 hw3=>.ret _ _ (.inr (cty_last _ _ _))
theorem sm_parted {t : Trie} (hro : t.readOnly=false) (fz : Bool) : ∀ (n : Nat) (g : Ga),GW g→Tk g t→Sm (partedT t (fun r m=>bif fz then frozenT r else copiedT m) n) (snapI t fz n) g
 | 0,g,hw,ht=>.ret _ g (q0 rfl)
 | n+1,g,hw,ht=>sm_help hw ht fun g1 h1 hw1 r hr=>sm_read hw1 (ht.ge h1) hr fun g2 h2 hw2 m hm =>
  .gen fun h4 hw4=>.alloc (0,0) (ok_inner (by omega) (by show _≤((_+1 : Nat) : Int); omega) (by decide)) ⟨fun _=>hm.ge h4,(fun h=>by cases h),fun h=>by cases h⟩ fun h5 hw5=>by
   have hg:=h4.trans h5
   refine sm_replace hw5 (ht.ge (h1.trans (h2.trans hg))) hro (hr.ge (h2.trans hg)) (hm.ge hg) (alloc_isI hw4 rfl) fun g6 h6 hw6 ok=>?_
   cases ok with
   | true =>
    cases fz with
    | true=>exact sm_frozen hw6 (hr.ge (h2.trans (hg.trans h6)))
    | false=>exact sm_copied hw6 (hm.ge (hg.trans h6))
   | false=>exact sm_parted hro fz n g6 hw6 (ht.ge (h1.trans (h2.trans (hg.trans h6))))
theorem sm_snapshot {c : Call} (n : Nat) (hw : GW g) (ht : Tk g c.trie) : Sm (snapshotT c.trie n) (snapshotI c.trie false n) g:=by
 unfold snapshotT snapshotI
 cases hro : c.trie.readOnly with
 | true=>exact .load .fixed (ht.fixed hro) fun g1 h1 hw1 r hr=>sm_read hw1 (ht.ge h1) hr fun g2 h2 hw2 m hm=>sm_copied hw2 hm
 | false=>exact sm_parted hro false n g hw ht
theorem sm_freeze {c : Call} (n : Nat) (hw : GW g) (ht : Tk g c.trie) : Sm (freezeT c.trie n) (snapshotI c.trie true n) g:=by
 unfold freezeT snapshotI
 cases hro : c.trie.readOnly with
 | true=>exact .load .fixed (ht.fixed hro) fun g1 h1 hw1 r hr=>sm_frozen hw1 hr
 | false=>exact sm_parted hro true n g hw ht
abbrev Kj (g : Ga) (b : Lab) (k k' : Int→I β) : Prop:=∀ g',Ge g g'→GW g'→∀ r,(r=0∨isI g' r b)→Sm (k r) (k' r) g'
theorem bl_kind {n : Node} {i : Int} (h : (blookup n i).2=true) : n.kind=3:=(isC_of (bl_isC h).1).1
theorem sm_renew {t : Trie} {k k' : Int→I β} {i c ix : Int} {b : Lab} (hw : GW g) (ht : Tk g t) (hi : isI g i b) (hc : isM g c b) (hl : (blookup (g.node c) ix).2=true) (hb : isI g (blookup (g.node c) ix).1 (deeper b ix)) (hk : Kj g (deeper b ix) k k') : Sm (renewT t i c ix k) ((renewI t i c ix).bind k') g:=by
 have hkc:=bl_kind hl
 have hn:=hw.ofM hc
 refine .nl hc.in_ (.nr hc.in_ (Sm.ff (by rw [hl]; rfl) (Sm.as (sm_read hw ht hb fun g1 h1 hw1 m hm=>?_))))
 have hi1:=hi.ge h1
 have hc1:=hc.ge h1
 have hgen:=(hw1.ofI hi1).i hi1.1
 have hv:=(hw1.ofI hi1).valid
 have h1g : 1≤(g1.node i).gen:=(valid_vf hv).gen hi1.1
 refine .nl hi1.in_ (.nr hi1.in_ (.alloc (deeper b ix) (ok_inner h1g hgen.1 (by have:=(hn.c hkc).1; show b.1+1≤11; omega)) ⟨fun _=>hm,(fun h=>by cases h),fun h=>by cases h⟩ fun h2 hw2=>?_))
 have hI:=alloc_isI hw1 (n:={ kind:=2,gen:=(g1.node i).gen }) (i:=m) (b:=deeper b ix) rfl
 have hc2:=hc1.ge h2
 have e2 : (g1.alloc { kind:=2,gen:=(g1.node i).gen } m (deeper b ix)).node c=g.node c:=(h1.trans h2).node hc.in_
 obtain ⟨u1,u2,u3⟩:=ok_updated (hw2.ofM hc2) (by rw [e2]; exact hkc) (by rw [e2]; exact hl) (.inl hI)
 refine .nl hc2.in_ (Sm.ff (by rw [u2]; rfl) ?_)
 unfold replaceI
 refine .nr hc2.in_ (.alloc b u1 (init_main u3 (.inr hc2)) fun h3 hw3=>?_)
 have hg:=h1.trans (h2.trans h3)
 refine Sm.as (u:=gcasI t i c _) (sm_swap hw3 (ht.ge hg) (hi.ge hg) (alloc_isM hw2 u3) fun g4 h4 hw4 ok=>?_)
 cases ok with
 | true=>exact hk g4 (hg.trans h4) hw4 _ (.inr (hI.ge (h3.trans h4)))
 | false=>exact hk g4 (hg.trans h4) hw4 0 (.inl rfl)
theorem sm_clean {t : Trie} {k k' : Bool→I β} {i c : Int} {h : Nat} {l : Int} {b : Lab} (hw : GW g) (ht : Tk g t) (hi : isI g i b) (hl : l=(b.1 : Int)) (hc : isI g c (deeper b (slice h l))∨∀ g',Ge g g'→GW g'→∀ m,isM g' m b→(blookup (g'.node m) (slice h l)).1≠c∨(blookup (g'.node m) (slice h l)).2=false) (hk : Kb g k k') : Sm (cleanT t i c h l k) ((cleanI t i c h l).bind k') g:=by
 refine Sm.as (sm_read hw ht hi fun g1 h1 hw1 m hm=>?_)
 refine .nl hm.in_ (.nr hm.in_ ?_)
 dsimp only
 cases hl1 : (blookup (g1.node m) (slice h l)).2 with
 | false=>exact hk g1 h1 hw1 false
 | true =>
  cases hl2 : (blookup (g1.node m) (slice h l)).1 != c with
  | true=>exact hk g1 h1 hw1 false
  | false =>
   have e1 : (blookup (g1.node m) (slice h l)).1=c:=by simpa using hl2
   rcases hc with hc | hc
   ·refine Sm.as (sm_read hw1 (ht.ge h1) (hc.ge h1) fun g2 h2 hw2 q hq=>?_)
    refine .nl hq.in_ (.nr hq.in_ ?_)
    dsimp only
    cases hu : (untombed (g2.node q)).2 with
    | false=>exact hk g2 (h1.trans h2) hw2 false
    | true =>
     obtain ⟨u1,u2,u3⟩:=untombed_ok (hw2.ofM hq) hu
     have hm2:=hm.ge h2
     have ek : (g2.node m).kind=3:=by rw [h2.node hm.in_]; exact bl_kind hl1
     refine .nl hm2.in_ (.alloc (deeper b (slice h l)) u1 (init_none (.inl u2)) fun h3 hw3=>?_)
     have hS:=alloc_isS (g:=g2) (b:=deeper b (slice h l)) (b':=deeper b (slice h l)) (i:=0) u2 u3
     have hm3:=hm2.ge h3
     refine .nr hm3.in_ ?_
     rw [h3.node hm2.in_]
     obtain ⟨p1,p2,p3⟩:=ok_updated ((hw2.ofM hm2).ge h3) ek (by rw [h2.node hm.in_]; exact hl1) (.inr hS)
     obtain ⟨q1,q2⟩:=ok_contracted (i:=slice h l) p1 (by
      have:=build_updated (n:=g2.node m) (i:=slice h l) (r:=g2.nodes.length+3) (by obtain ⟨L,hL⟩:=(hw2.ofM hm2).fit; exact hL.bm) (by rw [h2.node hm.in_]; exact hl1) (by omega)
      rw [this]) (s:=(untombed (g2.node q)).1) (fun _=>⟨u1.hash,u1.key,u3⟩) hl
     refine Sm.ff (by rw [p2]; rfl) (.alloc b q1 (init_main q2 (.inr hm3)) fun h4 hw4=>?_)
     have hg:=h1.trans (h2.trans (h3.trans h4))
     exact sm_swap hw4 (ht.ge hg) (hi.ge hg) (alloc_isM hw3 q2) (hk.ge hg)
   ·rcases hc g1 h1 hw1 m hm with hc | hc
    ·exact absurd e1 hc
    ·rw [hl1] at hc; cases hc
theorem pfind_no {l : List Pair} {key : ByteArray} (h : (pfind l key).2=false) : (pfind l key).1=0:=by
 unfold pfind at h ⊢
 split
 ·rename_i q; rw [if_pos q] at h; cases h
 ·rfl
theorem sm_pair {key : ByteArray} {x : Node} {u v : I Result} (hu : u=bif keyEq x.key key then .ret (valueR true x.value) else .ret (valueR false 0)) : Sm (pairT key x) u g:=by
 subst hu
 unfold pairT
 cases keyEq x.key key with
 | true=>exact .ret _ g (q0 rfl)
 | false=>exact .ret _ g (q0 rfl)
theorem sm_desc {t : Trie} {key : ByteArray} {h : Nat} : ∀ (n : Nat) (i level : Int) (b : Lab) (g : Ga),GW g→Tk g t→isI g i b→Sm (descT t key h n i level) (findI t key h n i level) g
 | 0,i,level,b,g,hw,ht,hi=>.ret _ g (q0 rfl)
 | n+1,i,level,b,g,hw,ht,hi=>sm_read hw ht hi fun g1 h1 hw1 r hr=>by
  refine .nl hr.in_ (.nr hr.in_ ?_)
  have hn:=hw1.ofM hr
  rcases isM_kind hr with hk | hk | hk
  ·refine Sm.tt (by rw [hk]; rfl) ?_
   rw [show ((g1.node r).kind==5)=false by rw [hk]; rfl,show ((g1.node r).kind==6)=false by rw [hk]; rfl]
   cases hl : (blookup (g1.node r) (slice h level)).2 with
   | false=>exact .ret _ g1 (q0 rfl)
   | true =>
    have hb:=(hn.c hk).2.2 _ hl
    rcases hb with hb | hb
    ·refine .nl hb.in_ (.nr hb.in_ ?_)
     rw [show ((g1.node (blookup (g1.node r) (slice h level)).1).kind==4)=false by rw [hb.1]; rfl]
     exact sm_desc n _ _ _ g1 hw1 (ht.ge h1) hb
    ·refine .nl hb.in_ (.nr hb.in_ ?_)
     rw [show ((g1.node (blookup (g1.node r) (slice h level)).1).kind==4)=true by rw [hb.1]; rfl]
     exact sm_pair (v:=.ret {}) rfl
  ·refine Sm.ff (by rw [hk]; rfl) (Sm.tt (by rw [hk]; rfl) ?_)
   rw [show ((g1.node r).kind==5)=true by rw [hk]; rfl]
   exact sm_pair (v:=.ret {}) rfl
  ·refine Sm.ff (by rw [hk]; rfl) (Sm.ff (by rw [hk]; rfl) (Sm.tt (by rw [hk]; rfl) ?_))
   rw [show ((g1.node r).kind==5)=false by rw [hk]; rfl,show ((g1.node r).kind==6)=true by rw [hk]; rfl]
   cases hp : (pfind (g1.node r).pairs key).2 with
   | true=>exact .ret _ g1 (q0 rfl)
   | false=>rw [pfind_no hp]; exact .ret _ g1 (q0 rfl)
theorem sm_find {c : Call} (n : Nat) (hw : GW g) (ht : Tk g c.trie) : Sm (helpT c.trie fun r=>descT c.trie c.key (hashOf c.key c.mask) n r 0) (lookupI c n) g :=
 sm_help hw ht fun g1 h1 hw1 r hr=>sm_desc n r 0 _ g1 hw1 (ht.ge h1) hr
end Go.Ct
end
