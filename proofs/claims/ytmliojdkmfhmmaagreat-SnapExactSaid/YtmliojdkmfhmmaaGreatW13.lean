/- Parts of a proof: Rg, Rb, Ryb. -/
import Derived.Test.YtmliojdkmfhmmaaGreatW12
import Derived.Test.YtmliojdkmfhmmaaGreatW10
import Derived.Test.YtmliojdkmfhmmaaGreatProg
import Derived.Test.YtmliojdkmfhmmaaGreatW03
set_option linter.unusedVariables false
set_option linter.unusedSimpArgs false
set_option maxRecDepth 100000
set_option maxHeartbeats 4000000
section
namespace Go.Ct
variable {α β : Type} {a b c : Nat}
theorem GoodB.at {t : I α} {Q : α→Prop} (h : GoodB a b t Q) {j L L0 : Nat} (hj : a≤j) (hL : L0≤L) : Cst t j L fun j' L' v=>b≤j'∧L0≤L'∧Q v :=
 (h j L hj).mono (Nat.le_refl _) (Nat.le_refl _) fun i i' M M' a hi hM hq=>⟨by omega,by omega,hq.2.2⟩
theorem GoodB.wk {a' b' : Nat} {t : I α} {Q Q' : α→Prop} (h : GoodB a b t Q) (ha : a≤a') (hb : b'≤b) (hQ : ∀ v,Q v→Q' v) : GoodB a' b' t Q':=fun j L hj=>(h j L (by omega)).mono (Nat.le_refl _) (Nat.le_refl _) fun i i' M M' v hi hM hq=>⟨by omega,by omega,hQ v hq.2.2⟩
theorem GoodB.then {t : I α} {Q : α→Prop} (h : GoodB a b t Q) {f : α→I β} {j L : Nat} {Q2 : Nat→Nat→β→Prop} (hj : a≤j) (k : ∀ j' L' v,b≤j'→L≤L'→Q v→Cst (f v) j' L' Q2) : Cst (t.bind f) j L Q2 :=
 Cst.bind ((h j L hj).mono (Nat.le_refl _) (Nat.le_refl _) fun i i' M M' v hi hM hq=>k i' M' v (by omega) (by omega) hq.2.2)
theorem cst_winner {v s : Int} {f : Int→I β} {j L : Nat} {Q : Nat→Nat→β→Prop} (k : ∀ L' w,L≤L'→Cst (f w) j L' Q) : Cst ((winnerI v s).bind f) j L Q:=by
 refine Cst.bind ?_
 unfold winnerI
 exact Cst.bif (fun _ M n hM hn=>k M _ hM) fun _ M n hM hn=>k M _ hM
theorem good_won (t : Trie) (v s : Int) : Good 30 (wonI t v s):=fun j L hj=>cst_winner fun L' w hL _=>⟨by omega,hL,trivial⟩
theorem good_root (t : Trie) : Good 30 (rootI t):=fun j L hj v M d hM hd=>Cst.bif (fun _=>⟨by omega,hM,trivial⟩) fun _ M2 d2 hM2 hd2 s =>
 Cst.bif (fun _ M3 d3 hM3 hd3 _ M4 d4 hM4 hd4 s2=>(good_won t v s2).at (by omega) (by omega)) fun _=>(good_won t v s).at (by omega) (by omega)
theorem good_back (i m p : Int) : Good 30 (backI i m p):=fun j L hj M a hM ha M2 b hM2 hb _ M3 b2 hM3 hb2=>⟨by omega,by omega,trivial⟩
theorem good_last (i m : Int) : Good 30 (lastI i m):=fun j L hj M a hM ha p=>Cst.bif (fun _=>⟨by omega,hM,trivial⟩) fun _=>(good_back i m p).at (by omega) hM
theorem good_fail (i m p : Int) : Good 30 (failI i m p):=fun j L hj M a hM ha=>⟨by omega,fit_small _ 7 0 p 0 0,fun f _ _=>(good_last i m).at (by omega) hM⟩
theorem good_settle (t : Trie) (i m : Int) : Good 30 (settleI t i m):=fun j L hj M a hM ha p=>Cst.bif (fun _=>⟨by omega,hM,trivial⟩) fun _ M2 b hM2 hb =>
 Cst.bif (fun _=>Cst.bif (fun _=>(good_fail i m p).at (by omega) (by omega)) fun _=>(good_root t).then (by omega) fun j' L' r hj' hL' _ M3 c hM3 hc M4 e hM4 he =>
  Cst.bif (fun _ M5 f hM5 hf _=>(good_last i m).at (by omega) (by omega)) fun _=>(good_fail i m p).at (by omega) (by omega)) fun _=>(good_back i m p).at (by omega) (by omega)
theorem good_read (t : Trie) (i : Int) : Good 30 (readI t i):=fun j L hj M a hM ha m=>(good_settle t i m).at (by omega) hM
theorem good_decide (t : Trie) (v : Int) : Good 30 (decideI t v):=fun j L hj M d hM hd=>(good_read t d.old).then hj fun j' L' m hj' hL' _ M2 d2 hM2 hd2 =>
 Cst.bif (fun _ M3 d3 hM3 hd3 _=>⟨by omega,by omega,trivial⟩) fun _ M3 d3 hM3 hd3 _=>⟨by omega,by omega,trivial⟩
theorem good_help (t : Trie) : Good 30 (helpI t):=fun j L hj v M d hM hd=>Cst.bif (fun _=>⟨by omega,hM,trivial⟩) fun _ M2 d2 hM2 hd2 s =>
 Cst.bif (fun _=>(good_decide t v).then (by omega) fun j' L' _ hj' hL' _ M4 d4 hM4 hd4 s2=>(good_won t v s2).at (by omega) (by omega)) fun _=>(good_won t v s).at (by omega) (by omega)
theorem good_gcas (t : Trie) (i o n : Int) : Good 30 (gcasI t i o n):=fun j L hj M a hM ha ok=>Cst.bif (fun _=>(good_settle t i n).then (by omega) fun j' L' m hj' hL' _=>⟨hj',by omega,trivial⟩) fun _=>⟨by omega,hM,trivial⟩
theorem good_rdcss (t : Trie) (o e n : Int) : Good 30 (rdcssI t o e n):=fun j L hj=>⟨by omega,fit_small _ 8 0 o e n,fun d _ ok=>Cst.bif (fun _=>(good_decide t d).then (by omega) fun j' L' _ hj' hL' _ M a hM ha s =>
 cst_winner fun L2 w hL2 _=>⟨by omega,by omega,trivial⟩) fun _=>⟨by omega,Nat.le_refl _,trivial⟩⟩
theorem cst_replace {f : Int→I β} {c ix r : Int} {j L : Nat} {Q : Nat→Nat→β→Prop} (hj : 1≤j) (k : ∀ L' v,L≤L'→1≤v→Cst (f v) (j - 1) L' Q) : Cst ((replaceI c ix r).bind f) j L Q :=
 fun M n hM hn=>⟨hj,(fit_updated hn ix r).mono (by omega),fun a ha=>k M a hM ha⟩
theorem good_renew (t : Trie) (i c ix : Int) : Good 30 (renewI t i c ix):=fun j L hj M n hM hn=>(good_read t _).then hj fun j' L' m hj' hL' _ M2 a hM2 ha =>
 ⟨by omega,fit_small _ 2 _ 0 0 0,fun r _=>cst_replace (by omega) fun L3 v hL3 _=>(good_gcas t i c v).then (by omega) fun j4 L4 ok hj4 hL4 _=>Cst.bif (fun _=>⟨hj4,by omega,trivial⟩) fun _=>⟨hj4,by omega,trivial⟩⟩
theorem good_clean (t : Trie) (p c : Int) (h : Nat) (l : Int) : Good 30 (cleanI t p c h l):=fun j L hj=>(good_read t p).then hj fun j' L' m hj' hL' _ M n hM hn =>
 Cst.bif (fun _=>⟨hj',by omega,trivial⟩) fun _=>Cst.bif (fun _=>⟨hj',by omega,trivial⟩) fun _=>(good_read t c).then (by omega) fun j2 L2 q hj2 hL2 _ M2 b hM2 hb =>
  Cst.bif (fun _=>⟨hj2,by omega,trivial⟩) fun _=>⟨by omega,(fit_untombed hb).mono (by omega),fun s _ M3 n3 hM3 hn3=>⟨by omega,(fit_contracted (fit_updated hn3 _ _) ((fit_untombed hb).mono (by omega)) l).mono (by omega),fun r _=>(good_gcas t p m r).at (by omega) (by omega)⟩⟩
theorem good_find (t : Trie) (key : ByteArray) (h : Nat) : ∀ (n : Nat) (i l : Int),Good 60 (findI t key h n i l)
 | 0,i,l=>fun j L hj=>⟨hj,Nat.le_refl _,trivial⟩
 | n+1,i,l=>fun j L hj=>(good_read t i).then (by omega) fun j' L' r hj' hL' _ M m hM hm=>Cst.bif (fun _=>Cst.bif (fun _=>⟨hj',by omega,trivial⟩) fun _=>⟨hj',by omega,trivial⟩) fun _ =>
  Cst.bif (fun _=>⟨hj',by omega,trivial⟩) fun _=>Cst.bif (fun _=>⟨hj',by omega,trivial⟩) fun _ M2 s hM2 hs =>
   Cst.bif (fun _=>Cst.bif (fun _=>⟨hj',by omega,trivial⟩) fun _=>⟨hj',by omega,trivial⟩) fun _=>(good_find t key h n _ _).at hj' (by omega)
theorem good_lookup (c : Call) (n : Nat) : Good 60 (lookupI c n):=fun j L hj=>(good_help c.trie).then (by omega) fun j' L' r hj' hL' _=>(good_find _ _ _ n r 0).at hj' hL'
theorem cst_allocs {f : Int→I β} {L : Nat} {Q : Nat→Nat→β→Prop} : ∀ (l : List (Node × Int)) (r : Int) (j : Nat),(∀ z ∈ l,z.1.Fit (L+1))→l.length≤j→1≤r→(∀ r,1≤r→Cst (f r) (j - l.length) L Q)→Cst ((allocsI l r).bind f) j L Q
 | [],r,j,_,_,hr,k=>k r hr
 | n::l,r,j,hl,hj,hr,k=>by
  refine ⟨by simp at hj; omega,hl n (by simp),fun r2 h2=>?_⟩
  refine cst_allocs l r2 (j - 1) (fun z hz=>hl z (by simp [hz])) (by simp at hj; omega) h2 fun r3 h3=>?_
  have:=k r3 h3
  rw [List.length_cons] at this
  rwa [show j - 1 - l.length=j - (l.length+1) by omega]
theorem dualUp_len (h : Nat) (g f : Int) : ∀ (n : Nat) (k : Int) (l : List (Node × Int)),(dualUp h g f k n l).length=l.length+2 * n
 | 0,k,l=>rfl
 | n+1,k,l=>by unfold dualUp; rw [dualUp_len h g f n]; simp; omega
theorem dualUp_head (h : Nat) (g f : Int) : ∀ (n : Nat) (k : Int) (z : Node × Int) (l : List (Node × Int)),(dualUp h g f k n (z::l)).head? = some z
 | 0,k,z,l=>rfl
 | n+1,k,z,l=>by unfold dualUp; exact dualUp_head h g f n _ _ _
theorem dualNodes_pos (x : Node) (a : Int) (h : Nat) (key : ByteArray) (v : Nat) (lv g f : Int) : 1≤(dualNodes x a h key v lv g f).length:=by
 unfold dualNodes; dsimp only
 split <;> rw [dualUp_len] <;> simp <;> omega
theorem dualNodes_head (x : Node) (a : Int) (h : Nat) (key : ByteArray) (v : Nat) (lv g f f' : Int) : (dualNodes x a h key v lv g f).head? = (dualNodes x a h key v lv g f').head?:=by
 unfold dualNodes; dsimp only
 split <;> rw [dualUp_head,dualUp_head]
theorem cst_dual {f : Int→I β} {x : Node} {a : Int} {h : Nat} {key : ByteArray} {v : Nat} {lv g : Int} {j L : Nat} {Q : Nat→Nat→β→Prop} (hj : 24≤j) (ha : 1≤a) (hx : x.key.size≤64) (hk : key.size≤64) (hh : h<18446744073709551616) (hne : keyEq x.key key=false) (hl : 0≤lv)
  (k : ∀ j' r,j - 24≤j'→1≤r→Cst (f r) j' L Q) : Cst ((dualI x a h key v lv g).bind f) j L Q:=by
 cases hd : dualNodes x a h key v lv g 0 with
 | nil =>
  have:=dualNodes_pos x a h key v lv g 0
  rw [hd] at this
  simp at this
 | cons n l =>
  have e : dualI x a h key v lv g=.alloc n.1 n.2 fun f=>allocsI (dualNodes x a h key v lv g f).tail f:=by unfold dualI; rw [hd]
  rw [e]
  have hn : n.1.Fit (L+1):=by
   have h1:=dualNodes_head x a h key v lv g 0 1
   rw [hd] at h1
   exact (dualNodes_fit (L+1) x a h key v lv g 1 (by decide) ha hx hk hh hne hl).1 n (List.mem_of_head? h1.symm)
  refine ⟨by omega,hn,fun r hr=>?_⟩
  obtain ⟨g1,g2⟩:=dualNodes_fit (L+1) x a h key v lv g r hr ha hx hk hh hne hl
  refine cst_allocs _ r (j - 1) (fun z hz=>g1 z (List.mem_of_mem_tail hz)) (by rw [List.length_tail]; omega) hr fun r3 h3=>k _ r3 (by rw [List.length_tail]; omega) h3
theorem fnvStep_lt' (h : Nat) (b : UInt8) : fnvStep h b<18446744073709551616:=by unfold fnvStep; exact Nat.mod_lt _ (by omega)
theorem fnv_lt' (l : List UInt8) : fnv l<18446744073709551616:=by
 rcases List.eq_nil_or_concat l with rfl | ⟨l,b,rfl⟩
 ·unfold fnv; rw [List.foldl_nil]; omega
 ·rw [List.concat_eq_append]; unfold fnv; rw [List.foldl_append,List.foldl_cons,List.foldl_nil]; exact fnvStep_lt' _ _
theorem hashOf_lt' (s : ByteArray) (m : Nat) : hashOf s m<18446744073709551616:=Nat.lt_of_le_of_lt Nat.and_le_left (fnv_lt' _)
theorem good_putLeaf (c : Call) (i m : Int) (h : Nat) (level gen : Int) (hk : c.key.size≤64) (hh : h<18446744073709551616) (hl : 0≤level) : Good 60 (putLeafI c i m h level gen):=fun j L hj M n hM hn =>
 Cst.bif (fun _=>Cst.bif (fun _=>⟨hj,hM,trivial⟩) fun _=>⟨by omega,fit_grown hn _ _,fun a _=>(good_gcas c.trie i m a).then (by omega) fun j' L' ok hj' hL' _=>⟨hj',by omega,trivial⟩⟩) fun _ M2 s hM2 hs =>
 Cst.bif (fun _=>⟨hj,by omega,trivial⟩) fun _=>Cst.bif (fun _=>Cst.bif (fun _=>⟨hj,by omega,trivial⟩) fun _=>⟨by omega,fit_key _ 4 _ _ _ (by decide) hh hk,fun a _=>cst_replace (by omega) fun L3 r hL3 _ =>
  (good_gcas c.trie i m r).then (by omega) fun j' L' ok hj' hL' _=>⟨hj',by omega,trivial⟩⟩) fun hsame=>Cst.bif (fun _=>⟨hj,by omega,trivial⟩) fun _ =>
 Cst.bif (fun _=>⟨by omega,fit_key _ 4 _ _ _ (by decide) hh hk,fun a _=>⟨by omega,(fit_inserted hn _ _).mono (by omega),fun r _=>(good_gcas c.trie i m r).then (by omega) fun j' L' ok hj' hL' _=>⟨hj',by omega,trivial⟩⟩⟩) fun hhas =>
  cst_dual (by omega) (blookup_pos (by simpa using hhas)) hs.2 hk hh (by simpa [show (blookup n (slice h level)).2=true by simpa using hhas] using hsame) (by omega) fun j' r hj' _=>⟨by omega,fit_small _ 2 _ 0 0 0,fun q _=>cst_replace (by omega) fun L3 v hL3 _ =>
   (good_gcas c.trie i m v).then (by omega) fun j' L' ok hj' hL' _=>⟨hj',by omega,trivial⟩⟩
theorem good_below (t : Trie) (i m ix gen : Int) : Good 60 (belowI t i m ix gen):=fun j L hj M n hM hn M2 b hM2 hb=>Cst.bif (fun _=>⟨hj,by omega,trivial⟩) fun _=>(good_renew t i m ix).at (by omega) (by omega)
theorem good_putIn (c : Call) (h : Nat) (gen : Int) (hk : c.key.size≤64) (hh : h<18446744073709551616) : ∀ (n : Nat) (p i level : Int),0≤level→Good 60 (putIn c h gen n p i level)
 | 0,p,i,level,hl=>fun j L hj=>⟨hj,Nat.le_refl _,trivial⟩
 | n+1,p,i,level,hl=>fun j L hj=>(good_read c.trie i).then (by omega) fun j' L' m hj' hL' _ M a hM ha=>Cst.bif (fun _=>(good_clean c.trie p i h (level - 1)).then (by omega) fun j2 L2 ok hj2 hL2 _=>⟨hj2,by omega,trivial⟩) fun _ =>
  (good_putLeaf c i m h level gen hk hh hl).then hj' fun j2 L2 r hj2 hL2 _=>Cst.bif (fun _=>⟨hj2,by omega,trivial⟩) fun _=>Cst.bif (fun _=>⟨hj2,by omega,trivial⟩) fun _ =>
  (good_below c.trie i m (slice h level) gen).then hj2 fun j3 L3 b hj3 hL3 _=>Cst.bif (fun _=>⟨hj3,by omega,trivial⟩) fun _=>(good_putIn c h gen hk hh n i b (level+1) (by omega)).at hj3 (by omega)
theorem good_put (c : Call) (k : Nat) (hk : c.key.size≤64) : ∀ n,Good 60 (putI c k n)
 | 0=>fun j L hj=>⟨hj,Nat.le_refl _,trivial⟩
 | n+1=>fun j L hj=>(good_help c.trie).then (by omega) fun j' L' i hj' hL' _ M a hM ha=>(good_putIn c _ _ hk (hashOf_lt' _ _) k 0 i 0 (Int.le_refl _)).then hj' fun j2 L2 o hj2 hL2 _=>by
  cases o with
  | some r=>exact ⟨hj2,by omega,trivial⟩
  | none=>exact (good_put c k hk n).at hj2 (by omega)
theorem good_dropLeaf (c : Call) (i m : Int) (h : Nat) (level : Int) : Good 60 (dropLeafI c i m h level):=fun j L hj M n hM hn =>
 Cst.bif (fun _=>Cst.bif (fun _=>⟨hj,hM,trivial⟩) fun _=>Cst.bif (fun _=>⟨hj,hM,trivial⟩) fun _=>⟨by omega,(fit_shrunk hn _).mono (by omega),fun a _=>(good_gcas c.trie i m a).then (by omega) fun j' L' ok hj' hL' _=>⟨hj',by omega,trivial⟩⟩) fun _ M2 s hM2 hs =>
 Cst.bif (fun _=>⟨hj,by omega,trivial⟩) fun _=>Cst.bif (fun _=>⟨hj,by omega,trivial⟩) fun _=>Cst.bif (fun _=>⟨hj,by omega,trivial⟩) fun _=>Cst.bif (fun _=>⟨hj,by omega,trivial⟩) fun _ M3 q hM3 hq =>
  ⟨by omega,(fit_contracted ((fit_removed hn _).mono (by omega)) hq level).mono (by omega),fun r _=>(good_gcas c.trie i m r).then (by omega) fun j' L' ok hj' hL' _=>⟨hj',by omega,trivial⟩⟩
theorem good_up (t : Trie) (path : List Int) (h : Nat) : ∀ l,Good 60 (upI t path h l)
 | 0=>fun j L hj=>⟨hj,Nat.le_refl _,trivial⟩
 | l+1=>fun j L hj=>(good_read t _).then (by omega) fun j' L' m hj' hL' _ M n hM hn=>Cst.bif (fun _=>⟨hj',by omega,trivial⟩) fun _=>(good_clean t _ _ h l).then (by omega) fun j2 L2 ok hj2 hL2 _=>(good_up t path h l).at hj2 (by omega)
theorem good_dropIn (c : Call) (h : Nat) (gen : Int) : ∀ (n : Nat) (path : List Int) (i level : Int),Good 60 (dropIn c h gen n path i level)
 | 0,path,i,level=>fun j L hj=>⟨hj,Nat.le_refl _,trivial⟩
 | n+1,path,i,level=>fun j L hj=>(good_read c.trie i).then (by omega) fun j' L' m hj' hL' _ M a hM ha=>Cst.bif (fun _=>(good_clean c.trie _ i h (level - 1)).then (by omega) fun j2 L2 ok hj2 hL2 _=>⟨hj2,by omega,trivial⟩) fun _ =>
  (good_dropLeaf c i m h level).then hj' fun j2 L2 r hj2 hL2 _=>Cst.bif (fun _=>Cst.bif (fun _=>(good_up c.trie path h _).then hj2 fun j3 L3 _ hj3 hL3 _=>⟨hj3,by omega,trivial⟩) fun _=>⟨hj2,by omega,trivial⟩) fun _=>Cst.bif (fun _=>⟨hj2,by omega,trivial⟩) fun _ =>
  (good_below c.trie i m (slice h level) gen).then hj2 fun j3 L3 b hj3 hL3 _=>Cst.bif (fun _=>⟨hj3,by omega,trivial⟩) fun _=>(good_dropIn c h gen n _ b (level+1)).at hj3 (by omega)
theorem good_drop (c : Call) (k : Nat) : ∀ n,Good 60 (dropI c k n)
 | 0=>fun j L hj=>⟨hj,Nat.le_refl _,trivial⟩
 | n+1=>fun j L hj=>(good_help c.trie).then (by omega) fun j' L' i hj' hL' _ M a hM ha=>(good_dropIn c _ _ k [i] i 0).then hj' fun j2 L2 o hj2 hL2 _=>by
  cases o with
  | some r=>exact ⟨hj2,by omega,trivial⟩
  | none=>exact (good_drop c k n).at hj2 (by omega)
theorem good_copied (m : Int) : GoodB 60 50 (copiedI m):=fun j L hj=>⟨by omega,fun g=>⟨by omega,fit_small _ 2 g 0 0 0,fun i _=>⟨by omega,fun c=>⟨by omega,Nat.le_refl _,trivial⟩⟩⟩⟩
theorem good_frozen (r : Int) : GoodB 60 50 (frozenI r):=fun j L hj=>⟨by omega,fun c=>⟨by omega,Nat.le_refl _,trivial⟩⟩
theorem good_snap (t : Trie) (fz : Bool) : ∀ n,GoodB 60 50 (snapI t fz n)
 | 0=>fun j L hj=>⟨by omega,Nat.le_refl _,trivial⟩
 | n+1=>fun j L hj=>(good_help t).then (by omega) fun j' L' r hj' hL' _=>(good_read t r).then (by omega) fun j2 L2 m hj2 hL2 _=>⟨by omega,fun g=>⟨by omega,fit_small _ 2 g 0 0 0,fun i _=>(good_rdcss t r m i).then (by omega) fun j3 L3 ok hj3 hL3 _ =>
  Cst.bif (fun _=>(good_snap t fz n).at hj3 (by omega)) fun _=>Cst.bif (fun _=>(good_frozen r).at hj3 (by omega)) fun _=>(good_copied m).at hj3 (by omega)⟩⟩
theorem good_snapshot (t : Trie) (fz : Bool) (n : Nat) : GoodB 60 50 (snapshotI t fz n):=fun j L hj=>Cst.bif (fun _ r=>Cst.bif (fun _=>(good_frozen r).at (by omega) (Nat.le_refl _)) fun _=>(good_read t r).then (by omega) fun j2 L2 m hj2 hL2 _=>(good_copied m).at hj2 hL2) fun _=>(good_snap t fz n).at hj (Nat.le_refl _)
theorem good_clear (t : Trie) : ∀ n,Good 60 (clearI t n)
 | 0=>fun j L hj=>⟨hj,Nat.le_refl _,trivial⟩
 | n+1=>fun j L hj=>(good_help t).then (by omega) fun j' L' r hj' hL' _=>(good_read t r).then (by omega) fun j2 L2 m hj2 hL2 _=>⟨by omega,fit_empty _,fun c _=>⟨by omega,fun g=>⟨by omega,fit_small _ 2 g 0 0 0,fun i _=>(good_rdcss t r m i).then (by omega) fun j3 L3 ok hj3 hL3 _ =>
  Cst.bif (fun _=>⟨hj3,by omega,trivial⟩) fun _=>(good_clear t n).at hj3 (by omega)⟩⟩⟩
theorem good_call (c : Call) (n : Nat) (hk : c.kind=8→refused c=0→c.key.size≤64) : GoodB 60 50 (callI c n):=by
 have wk : ∀ {a : Nat} {t : I Result},a≤60→Good a t→GoodB 60 50 t:=fun ha h=>GoodB.wk h ha (by omega) fun v h=>h
 have one : ∀ {α : Type} {t : I α} (f : α→Result),Good 30 t→GoodB 60 50 (t.bind fun v=>.ret (f v)):=fun f h j L hj=>GoodB.then h (by omega) fun j' L' v hj' hL' _=>⟨by omega,hL',trivial⟩
 unfold callI
 by_cases hr : refused c≠0
 ·rw [if_pos hr]; exact fun j L hj=>⟨by omega,Nat.le_refl _,trivial⟩
 rw [if_neg hr]
 by_cases h1 : c.kind=1
 ·rw [if_pos h1]; exact one _ (good_read _ _)
 rw [if_neg h1]
 by_cases h2 : c.kind=2
 ·rw [if_pos h2]; exact one _ (good_gcas _ _ _ _)
 rw [if_neg h2]
 by_cases h3 : c.kind=3
 ·rw [if_pos h3]; exact one _ (good_help _)
 rw [if_neg h3]
 by_cases h4 : c.kind=4
 ·rw [if_pos h4]; exact one _ (good_rdcss _ _ _ _)
 rw [if_neg h4]
 by_cases h5 : c.kind=5
 ·rw [if_pos h5]; exact one _ (good_renew _ _ _ _)
 rw [if_neg h5]
 by_cases h6 : c.kind=6
 ·rw [if_pos h6]; exact one _ (good_clean _ _ _ _ _)
 rw [if_neg h6]
 by_cases h7 : c.kind=7
 ·rw [if_pos h7]; exact wk (by omega) (good_lookup _ _)
 rw [if_neg h7]
 by_cases h8 : c.kind=8
 ·rw [if_pos h8]; exact wk (by omega) (good_put _ _ (hk h8 (Classical.not_not.1 hr)) _)
 rw [if_neg h8]
 by_cases h9 : c.kind=9
 ·rw [if_pos h9]; exact wk (by omega) (good_drop _ _ _)
 rw [if_neg h9]
 by_cases h10 : c.kind=10
 ·rw [if_pos h10]; exact good_snapshot _ _ _
 rw [if_neg h10]
 by_cases h11 : c.kind=11
 ·rw [if_pos h11]; exact good_snapshot _ _ _
 rw [if_neg h11]
 by_cases h12 : c.kind=12
 ·rw [if_pos h12]; exact wk (by omega) (good_clear _ _)
 rw [if_neg h12]
 exact fun j L hj=>⟨by omega,Nat.le_refl _,trivial⟩
end Go.Ct
end
section
namespace Go.Proofs.YtmliojdkmfhmmaaGreat
open Go.RowKit Go.E
variable {B w : World} {L : List As}
def trieC (t : Ct.Trie) : List Value:=[.int .i64 t.root,.bool t.readOnly]
def XA (b mb : Nat) (x : Ct.X) : As:=se [exA b mb x.e,memA mb x.s]
theorem se_at {l : List As} {O R : Nat→Prop} (h : (se l).p w O R) {i : Nat} {A : As} (hi : l[i]? = some A) : ∃ O R,A.p w O R:=by
 obtain ⟨Os,Rs,h1,_⟩:=h
 exact ⟨_,_,h1 i A hi⟩
theorem XA_b {b mb : Nat} {x : Ct.X} {O R : Nat→Prop} (h : (XA b mb x).p w O R) : ∃ q,w.heap[b]? = some (.cells (exV mb x.e q).toArray 115 (0,0)):=by
 obtain ⟨O1,R1,q,h1⟩:=se_at h (i:=0) rfl
 obtain ⟨O2,R2,h2⟩:=se_at h1 (i:=0) rfl
 exact ⟨q,h2.1⟩
end Go.Proofs.YtmliojdkmfhmmaaGreat
namespace Go.E
open Go.Proofs.YtmliojdkmfhmmaaGreat Go.RowKit
variable {B w : World} {L : List As}
theorem SH.xc {b mb : Nat} {x : Ct.X} {o : Nat} {v : Value} (h : SH B w L) (m : At L (XA b mb x)) (hv : ∀ q,(exV mb x.e q)[o]? = some v) : w.cell? ⟨b,o,none⟩=some v:=by
 obtain ⟨O,R,hA⟩:=h.at_ m
 obtain ⟨q,h0⟩:=XA_b hA
 simp [World.cell?,h0,hv q]
theorem Hs.xc {F : List As} {b mb : Nat} {x : Ct.X} {o : Nat} {v : Value} (h : Hs F w) (m : At F (XA b mb x)) (hv : ∀ q,(exV mb x.e q)[o]? = some v) : w.cell? ⟨b,o,none⟩=some v:=by
 obtain ⟨O,R,hA⟩:=h _ m
 obtain ⟨q,h0⟩:=XA_b hA
 simp [World.cell?,h0,hv q]
theorem SH.xr {b mb : Nat} {x : Ct.X} (o : Nat) {cs : List Value} (h : SH B w L) (m : At L (XA b mb x)) (hv : ∀ q,((exV mb x.e q).drop o).take cs.length=cs) : ∀ j v,cs[j]? = some v→w.cell? ⟨b,o+j,none⟩=some v:=by
 obtain ⟨O,R,hA⟩:=h.at_ m
 obtain ⟨q,h0⟩:=XA_b hA
 exact rows_of h0 o (hv q)
theorem Hs.xr {F : List As} {b mb : Nat} {x : Ct.X} (o : Nat) {cs : List Value} (h : Hs F w) (m : At F (XA b mb x)) (hv : ∀ q,((exV mb x.e q).drop o).take cs.length=cs) : ∀ j v,cs[j]? = some v→w.cell? ⟨b,o+j,none⟩=some v:=by
 obtain ⟨O,R,hA⟩:=h _ m
 obtain ⟨q,h0⟩:=XA_b hA
 exact rows_of h0 o (hv q)
theorem SH.xo {b mb : Nat} {x : Ct.X} (h : SH B w (XA b mb x::L)) : ∃ q,SH B w (exL b mb x.e q ++ memA mb x.s::L):=by
 have h:=h.se
 obtain ⟨q,h⟩:=SH.ex (f:=fun q=>Go.E.se (exL b mb x.e q)) h
 exact ⟨q,h.se⟩
theorem SH.xi {b mb : Nat} {e : Ct.Ex} {s : Ct.St} (q : Eq') (h : SH B w (exL b mb e q ++ memA mb s::L)) : SH B w (XA b mb ⟨e,s⟩::L) :=
 SH.is (l:=[exA b mb e,memA mb s]) (SH.in_ (f:=fun q=>Go.E.se (exL b mb e q)) q (SH.is h))
theorem SH.mo {b : Nat} {s : Ct.St} (h : SH B w (memA b s::L)) : ∃ q : Mq,q.zs.map Prod.fst=nodesOf s∧SH B w (memL b s q ++ L):=by
 obtain ⟨q,h⟩:=SH.ex (f:=fun q : Mq=>Go.E.se (Go.E.pu (q.zs.map Prod.fst=nodesOf s)::memL b s q)) h
 have h:=h.se
 exact ⟨q,h.pu⟩
theorem SH.mi {b : Nat} {s : Ct.St} (q : Mq) (hq : q.zs.map Prod.fst=nodesOf s) (h : SH B w (memL b s q ++ L)) : SH B w (memA b s::L) :=
 SH.in_ (f:=fun q : Mq=>Go.E.se (Go.E.pu (q.zs.map Prod.fst=nodesOf s)::memL b s q)) q (SH.is (l:=Go.E.pu (q.zs.map Prod.fst=nodesOf s)::memL b s q) (SH.ip hq h))
theorem SH.nilN (n : Ct.Node) (hb : n.branches=[]) (hp : n.pairs=[]) (h : SH B w L) : SH B w (nodeR n {}::L):=by
 refine SH.is (l:=[branchR n {},pairR n {}]) ?_
 unfold branchR pairR
 rw [hb,hp]
 exact SH.nilr 1 (SH.nilr 2 h)
end Go.E
end
section
namespace Go.Proofs.YtmliojdkmfhmmaaGreat
open Go.E
theorem bd_77 : bdn Tryz.prog 77 = some ([.int .i64 0,.int .i64 0,.int .i64 0,.int .u64 0,.slice none 0 0,.int .u64 0,.string .empty,.int .u64 0,.slice none 0 0,.int .i64 0,.int .i64 0,.int .i64 0,.int .i64 0,.int .i64 0],[(0,1),(1,1),(2,1),(3,1),(4,1),(5,1),(6,1),(7,1),(8,1),(9,1),(10,1),(11,1),(12,1),(13,1)]):=by kernel_rfl
theorem fo_62_0 : fo Tryz.prog 62 0=some 0:=by kernel_rfl
theorem fo_64_0 : fo Tryz.prog 64 0=some 0:=by kernel_rfl
theorem fo_77_0 : fo Tryz.prog 77 0=some 0:=by kernel_rfl
theorem fo_77_13 : fo Tryz.prog 77 13=some 13:=by kernel_rfl
theorem fo_77_2 : fo Tryz.prog 77 2=some 2:=by kernel_rfl
theorem fo_77_4 : fo Tryz.prog 77 4=some 4:=by kernel_rfl
theorem fo_77_8 : fo Tryz.prog 77 8=some 8:=by kernel_rfl
theorem fo_77_9 : fo Tryz.prog 77 9=some 9:=by kernel_rfl
theorem one_3 : oneC Tryz.prog 3 = true:=by kernel_rfl
theorem one_36 : oneC Tryz.prog 36 = true:=by kernel_rfl
theorem one_38 : oneC Tryz.prog 38 = true:=by kernel_rfl
theorem one_59 : oneC Tryz.prog 59 = true:=by kernel_rfl
theorem one_60 : oneC Tryz.prog 60 = true:=by kernel_rfl
theorem row_77 : rowN Tryz.prog 77 = some 14:=by kernel_rfl
theorem sl_38 : Tryz.prog.underlying 38 = some (.slice 132):=by kernel_rfl
theorem sl_59 : Tryz.prog.underlying 59 = some (.slice 77):=by kernel_rfl
theorem sl_60 : Tryz.prog.underlying 60 = some (.slice 36):=by kernel_rfl
theorem ss_36 : sizes Tryz.prog 36 = some (.int .i64 0,1,8):=by kernel_rfl
theorem ss_77 : sizes Tryz.prog 77 = some (.agg [.int .i64 0,.int .i64 0,.int .i64 0,.int .u64 0,.slice none 0 0,.int .u64 0,.string .empty,.int .u64 0,.slice none 0 0,.int .i64 0,.int .i64 0,.int .i64 0,.int .i64 0,.int .i64 0].toArray,14,152):=by kernel_rfl
theorem sz_3 : (Tryz.prog.info? 3).map (·.size)=some 1:=by kernel_rfl
theorem sz_33 : (Tryz.prog.info? 33).map (·.size)=some 1:=by kernel_rfl
theorem sz_36 : (Tryz.prog.info? 36).map (·.size)=some 1:=by kernel_rfl
theorem sz_59 : (Tryz.prog.info? 59).map (·.size)=some 1:=by kernel_rfl
theorem sz_60 : (Tryz.prog.info? 60).map (·.size)=some 1:=by kernel_rfl
theorem sz_77 : (Tryz.prog.info? 77).map (·.size)=some 14:=by kernel_rfl
theorem zc_77 : zc Tryz.prog 77 = some [.int .i64 0,.int .i64 0,.int .i64 0,.int .u64 0,.slice none 0 0,.int .u64 0,.string .empty,.int .u64 0,.slice none 0 0,.int .i64 0,.int .i64 0,.int .i64 0,.int .i64 0,.int .i64 0]:=by kernel_rfl
theorem en_82 : Ents Tryz.prog 82:=enG Tryz.func82 rfl rfl
theorem en_84 : Ents Tryz.prog 84:=enG Tryz.func84 rfl rfl
theorem en_83 : Ents Tryz.prog 83:=enG Tryz.func83 rfl rfl
end Go.Proofs.YtmliojdkmfhmmaaGreat
end
