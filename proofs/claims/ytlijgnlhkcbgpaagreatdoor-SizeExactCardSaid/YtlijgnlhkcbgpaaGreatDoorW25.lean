/- Parts of a proof: Sa3, Rs, Q0, Sa4. -/
import Derived.Test.YtlijgnlhkcbgpaaGreatDoorW24
set_option linter.unusedVariables false
set_option linter.unusedSimpArgs false
set_option maxRecDepth 100000
set_option maxHeartbeats 4000000
section
namespace Go.Ct
variable{β:Type}{g:Ga}
theorem wT{h j:Nat}(hj:j<=10):slice h j=((h/64^j%64:Nat):Int):=by
 unfold slice;rw[if_neg (by omega),dF]
theorem Dm(h k:Nat):∀n l j,l<=j->j<jJ h k n l->slice h j=slice k j
 |0,l,j,h1,h2=>by unfold jJ at h2;omega
 |n+1,l,j,h1,h2=>by
  unfold jJ at h2
  split at h2
  ·rename_i e
   by_cases hj:j=l
   ·subst hj;first|exact e|exact(by simpa using e)
   ·exact Dm h k n (l+1) j (by omega) h2
  ·omega
theorem Hl{a b:Nat}:∀c:Nat,c<=11->(∀j:Nat,j<c->slice a j=slice b j)->a%64^c=b%64^c
 |0,_,_=>by simp[Nat.mod_one]
 |c+1,hc,h=>by
  have e:=h c (by omega)
  rw[wT (by omega),wT (by omega)]at e
  have e:a/64^c%64=b/64^c%64:=by omega
  rw[Nat.pow_succ,Nat.mod_mul,Nat.mod_mul,e,Hl c (by omega) λj hj=>h j (by omega)]
theorem DG{a b c:Nat}(h:a%64^c=b%64^c)(hc:c<=11):∀j:Nat,j<c->slice a j=slice b j:=λj hj=>by
 rw[wT (by omega),wT (by omega)]
 have e:a%64^(j+1)=b%64^(j+1):=by
  rw[<- Nat.mod_mod_of_dvd a (Nat.pow_dvd_pow 64 (show j+1<=c by omega)),<- Nat.mod_mod_of_dvd b (Nat.pow_dvd_pow 64 (show j+1<=c by omega)),h]
 rw[Nat.pow_succ]at e
 rw[<- Nat.mod_mul_right_div_self,<- Nat.mod_mul_right_div_self,e]
theorem Nq{a b c:Nat}(h:a%64^c=b%64^c)(hc:c<=11):c<=aJ a b:=by
 obtain⟨h1,h2⟩:=lV a b 11 0
 unfold aJ
 rcases PQ (jJ a b 11 0) c with h3|h3
 ·exact absurd (DG h hc _ h3) (h2 (by omega))
 ·exact h3
def Qv(h:Nat)(gen:Int):Nat->Int->(Int->I β)->Int->I β
 |0,_,k,m=>k m
 |j+1,lv,k,m=>.alloc {kind:=2,gen:=gen} m λi=>.alloc (aS {kind:=3} (slice h lv) i).1 0 λm'=>Qv h gen j (lv-1) k m'
def OW(x:Node)(at_:Int)(h:Nat)(key:ByteArray)(v:Nat)(c:Nat)(k:Int->I β):I β:=
 if 11<=c then .alloc {kind:=6,hash:=h,aF:=gG ⟨x.key,x.value⟩ ⟨key,v⟩} 0 k
 else .alloc {kind:=4,hash:=h,key:=key,value:=v} 0 λs=>.alloc (aS (aS {kind:=3} (slice x.hash c) at_).1 (slice h c) s).1 0 k
theorem Mt(h:Nat)(gen:Int)(k:Int->I β):∀(j:Nat) (lv m:Int),Qv h gen (j+1) lv k m=Qv h gen j lv (λm=>.alloc {kind:=2,gen:=gen} m λi=>.alloc (aS {kind:=3} (slice h (lv-j)) i).1 0 k) m
 |0,lv,m=>by simp[Qv]
 |j+1,lv,m=>by
  rw[Qv,Qv]
  congr 1;funext i;congr 1;funext m'
  rw[Mt h gen k j (lv-1) m']
  rw[show lv-1-(j:Int)=lv-((j+1:Nat):Int) by omega]
theorem Wi(x:Node)(at_:Int)(h:Nat)(key:ByteArray)(v:Nat)(gen:Int):∀(n:Nat) (k:Int->I β),n<=11->11-n<=aJ x.hash h->
  uY x at_ h key v gen n k=OW x at_ h key v (aJ x.hash h) λm=>Qv h gen (aJ x.hash h-(11-n)) ((aJ x.hash h:Int)-1) k m
 |0,k,hn,hc=>by
  have h1:=(lV x.hash h 11 0).1
  have h2:aJ x.hash h=11:=by unfold aJ at *;omega
  rw[h2];rfl
 |n+1,k,hn,hc=>by
  have h1:=(lV x.hash h 11 0).1
  have h2:=(lV x.hash h 11 0).2
  have h3:=Dm x.hash h 11 0
  have hc':aJ x.hash h=jJ x.hash h 11 0:=rfl
  have eL:(11:Int)-((n+1:Nat):Int)=((11-(n+1):Nat):Int):=by omega
  rw[uY,eL]
  by_cases hs:slice h ((11-(n+1):Nat):Int)=slice x.hash ((11-(n+1):Nat):Int)
  ·rw[show (slice h ((11-(n+1):Nat):Int) != slice x.hash ((11-(n+1):Nat):Int))=false by rw[hs];exact bne_self_eq_false _]
   have hlt:11-n<=aJ x.hash h:=by
    rcases PQ (aJ x.hash h) (11-n)with q|q
    ·have e:aJ x.hash h=11-(n+1):=by omega
     have:=h2 (by omega)
     rw[<- hc',e]at this
     exact absurd hs.symm this
    ·exact q
   show uY x at_ h key v gen n _=_
   rw[Wi x at_ h key v gen n _ (by omega) hlt]
   congr 1;funext m
   rw[show aJ x.hash h-(11-(n+1))=(aJ x.hash h-(11-n))+1 by omega,Mt]
   congr 1;funext m
   rw[show (aJ x.hash h:Int)-1-((aJ x.hash h-(11-n):Nat):Int)=((11-(n+1):Nat):Int) by omega]
  ·rw[show (slice h ((11-(n+1):Nat):Int) != slice x.hash ((11-(n+1):Nat):Int))=true from bne_iff_ne.2 hs]
   have e:aJ x.hash h=11-(n+1):=by
    rcases PQ (11-(n+1)) (aJ x.hash h)with q|q
    ·exact absurd (h3 _ (Xe _) q).symm hs
    ·omega
   rw[e,Nat.sub_self]
   unfold OW
   rw[if_neg (by omega)]
   rfl
def Md(h:Nat)(gen:Int):Nat->Int->Int->List (Node×Int)
 |0,_,_=>[]
 |j+1,lv,t=>({kind:=2,gen:=gen},t)::({kind:=3,aD:=Bm.cI 0 (slice h lv),aA:=[t+1]},0)::Md h gen j (lv-1) (t+2)
theorem yR(h:Nat)(gen f:Int):∀(j:Nat) (k:Int) (l:List (Node×Int)),eZ h gen f k j l=l++Md h gen j (k-1) (f+l.length-1)
 |0,k,l=>by simp[eZ,Md]
 |j+1,k,l=>by
  rw[eZ,yR h gen f j (k-1),Md,eC]
  congr 1
  rw[cO,List.cons_append,List.cons_append,Xb,show f+(((l.length+[(({kind:=2,gen:=gen}:Node),f+(l.length:Int)-1),({kind:=3,aD:=Bm.cI 0 (slice h (k-1)),aA:=[f+(l.length:Int)-1+1]},0)].length:Nat):Int))-1=f+l.length-1+2 by simp;omega]
theorem CA(x:Node)(at_:Int)(h:Nat)(key:ByteArray)(v lv:Nat)(gen:Int):nM x at_ h key v lv gen=
  if 11<=aJ x.hash h then .alloc {kind:=6,hash:=h,aF:=gG ⟨x.key,x.value⟩ ⟨key,v⟩} 0 λf=>gR (Md h gen (11-lv) 10 f) f
  else .alloc {kind:=4,hash:=h,key:=key,value:=v} 0 λf=>.alloc (fX (slice x.hash (aJ x.hash h)) at_ (slice h (aJ x.hash h)) f) 0 λr=>gR (Md h gen (aJ x.hash h-lv) ((aJ x.hash h:Int)-1) (f+1)) r:=by
 have hd:∀f,bT x at_ h key v lv gen f=if 11<=aJ x.hash h then({kind:=6,hash:=h,aF:=gG ⟨x.key,x.value⟩ ⟨key,v⟩},0)::Md h gen (11-lv) 10 f
   else({kind:=4,hash:=h,key:=key,value:=v},0)::(fX (slice x.hash (aJ x.hash h)) at_ (slice h (aJ x.hash h)) f,0)::Md h gen (aJ x.hash h-lv) ((aJ x.hash h:Int)-1) (f+1):=λf=>by
  unfold bT
  dsimp only
  split
  ·rw[yR,List.singleton_append,show ((11:Int)-(lv:Int)).toNat=11-lv by omega]
   congr 2
   show f+((1:Nat):Int)-1=f;omega
  ·rw[yR,List.cons_append,List.cons_append,Xb,show ((aJ x.hash h:Int)-(lv:Int)).toNat=aJ x.hash h-lv by omega]
   congr 3
   show f+((2:Nat):Int)-1=f+1;omega
 by_cases hc:11<=aJ x.hash h
 ·have e0:=hd 0
  rw[if_pos hc]at e0
  unfold nM
  rw[e0,if_pos hc]
  show I.alloc _ _ _=I.alloc _ _ _
  congr 1;funext f
  rw[hd f,if_pos hc];rfl
 ·have e0:=hd 0
  rw[if_neg hc]at e0
  unfold nM
  rw[e0,if_neg hc]
  show I.alloc _ _ _=I.alloc _ _ _
  congr 1;funext f
  rw[hd f,if_neg hc];rfl
theorem RU(i:Int):Bm.has 0 i=false:=by unfold Bm.has;simp
theorem OB(i:Int):aB {kind:=3} i=(0,false):=Dd (RU i)
theorem Ao{i r:Int}(h0:0<=i)(h1:i<64)(hr:1<=r):aS {kind:=3} i r=({kind:=3,aD:=Bm.cI 0 i,aA:=[r]},true):=by
 unfold aS
 rw[if_neg (by rw[show Node.lO {kind:=3}=true by decide+kernel];simp[RU];omega)]
 simp
theorem ok_one{b:fV}{i r:Int}(hb:b.1<=10)(hb2:b.2<64^b.1)(h0:0<=i)(h1:i<64)(hr:jV g r (dO b i)\/Dg g r (dO b i)):cJ g (aS {kind:=3} i r).1 b:=
 (uC (Js hb hb2) rfl (by rw[OB]) h0 h1 hr).1
variable[Qc β]
theorem cY(g:Ga)(n:Node)(i:Int)(b:fV):(g.alloc n i b).nodes.length=g.nodes.length+1:=by rw[iQ,cO];rfl
abbrev Km(g:Ga)(b:fV)(k:Int->I β)(k':Int->I β):Prop:=∀g',Ge g g'->GW g'->∀r,oH g' r b->Sm (k r) (k' r) g'
theorem Km.ge{b:fV}{k k':Int->I β}{g':Ga}(h:Km g b k k')(hg:Ge g g'):Km g' b k k':=λg2 h2 hw r hr=>h g2 (hg.trans h2) hw r hr
theorem BA{k k':Int->I β}{h:Nat}{gen:Int}(hg1:1<=gen):∀(j q:Nat) (g:Ga) (m:Int),GW g->j<=q->q<=11->gen<=g.gen->m=g.nodes.length+2->oH g m (q,h%64^q)->Km g (q-j,h%64^(q-j)) k k'->
  Sm (Qv h gen j ((q:Int)-1) k m) ((gR (Md h gen j ((q:Int)-1) m) m).bind k') g
 |0,q,g,m,hw,hj,hq,hg,hm,hM,hk=>hk g (Ge.refl hw) hw m hM
 |j+1,0,g,m,hw,hj,hq,hg,hm,hM,hk=>absurd hj (by omega)
 |j+1,q+1,g,m,hw,hj,hq,hg,hm,hM,hk=>by
  have el:((q+1:Nat):Int)-1=(q:Int):=by omega
  rw[el]
  have es:=zR h q
  have ed:=fP (h:=h) (l:=q) (by omega)
  refine .alloc (q+1,h%64^(q+1)) (rH hg1 hg hq) ⟨λ_=>hM,(λh=>by cases h),λh=>by cases h⟩ λh1 hw1=>?_
  have hI:=oU hw (n:={kind:=2,gen:=gen}) (i:=m) (b:=(q+1,h%64^(q+1))) rfl
  have hlen:(g.alloc {kind:=2,gen:=gen} m (q+1,h%64^(q+1))).nodes.length=g.nodes.length+1:=by rw[iQ,cO];rfl
  have hC:cJ (g.alloc {kind:=2,gen:=gen} m (q+1,h%64^(q+1))) (aS {kind:=3} (slice h q) (g.nodes.length+3)).1 (q,h%64^q):=
   ok_one (by show q<=10;omega) (Nat.mod_lt _ (Nat.pow_pos (by decide))) es.1 es.2 (.inl (by rw[ed];exact hI))
  have ep:=Ao (i:=slice h q) (r:=g.nodes.length+3) es.1 es.2 (by omega)
  rw[ep]at hC
  have et:m+1=(g.nodes.length:Int)+3:=by omega
  show Sm (.alloc (aS {kind:=3} (slice h q) (g.nodes.length+3)).1 0 _) (.alloc {kind:=3,aD:=Bm.cI 0 (slice h q),aA:=[m+1]} 0 _) _
  rw[ep,et]
  refine .alloc (q,h%64^q) hC (mZ rfl (.inl rfl)) λh2 hw2=>?_
  have hM2:=kQ hw1 (n:={kind:=3,aD:=Bm.cI 0 (slice h q),aA:=[(g.nodes.length:Int)+3]}) (i:=0) (b:=(q,h%64^q)) rfl
  have e2:m+2=((g.alloc {kind:=2,gen:=gen} m (q+1,h%64^(q+1))).nodes.length:Int)+3:=by rw[hlen];omega
  rw[e2]
  refine BA hg1 j q _ _ hw2 (by omega) (by omega) (by have:=(h1.trans h2).gen;omega) (by simp only[cY];omega) hM2 ?_
  rw[show q+1-(j+1)=q-j by omega]at hk
  exact hk.ge (h1.trans h2)
theorem Ys{i a k b:Int}(h0:0<=i)(h1:i<64)(k0:0<=k)(k1:k<64)(hne:i≠k)(ha:1<=a)(hb:1<=b):(aS (aS {kind:=3} i a).1 k b).1=fX i a k b/\(aB (aS {kind:=3} i a).1 k).2=false:=by
 rw[Ao h0 h1 ha]
 have hv:Node.valid {kind:=3,aD:=Bm.cI 0 i,aA:=[a]}=true:=(FL 0 i a h0 h1 ha).1.2.2.2.2.2.2 (.inl rfl)
 have hC:Node.lO {kind:=3,aD:=Bm.cI 0 i,aA:=[a]}=true:=by unfold Node.lO;rw[hv];rfl
 have hh:=Uu h0 h1 k0 k1 hne
 refine⟨?_,by rw[Dd hh]⟩
 unfold aS fX
 rw[if_neg (by rw[hC];simp[hh];omega)]
 obtain⟨i,rfl⟩:=Hp h0
 obtain⟨k,rfl⟩:=Hp k0
 have hp:Bm.aO (Bm.cI 0 (i:Int)) (k:Int)=if i<k then 1 else 0:=by
  rw[Vo (by omega)]
  have hbit:∀j,(Bm.cI 0 (i:Int)).testBit j=decide (i=j):=λj=>by
   rw[Bm.gL _ i (by omega)];by_cases e:i=j<;>simp[e]
  have hz:∀m,m<=i->Bm.pop m (Bm.cI 0 (i:Int))=0:=λm=>by
   induction m with
   |zero=>intro _;simp[Bm.pop]
   |succ m ih=>intro hm;rw[Bm.cZ,ih (by omega),hbit];simp[show i≠m by omega]
  have ho:∀m,i<m->Bm.pop m (Bm.cI 0 (i:Int))=1:=λm=>by
   induction m with
   |zero=>intro h;omega
   |succ m ih=>
    intro hm
    rw[Bm.cZ,hbit]
    by_cases e:i=m
    ·subst e;rw[hz i (bD _)];simp
    ·rw[ih (by omega)];simp[e]
  split
  ·exact ho k (by assumption)
  ·exact hz k (by omega)
 rw[hp]
 by_cases e:i<k
 ·rw[if_pos e,if_neg (by omega)];simp
 ·rw[if_neg e,if_pos (by omega)];simp
theorem Pj{h:Nat}{l:List bN}{b:fV}(hh:h<18446744073709551616)(h0:2<=l.length)(h2:aQ l=true)(h3:∀q∈l,q.key.size<=64)(hb:b.1=11/\h%64^b.1=b.2):cJ g {kind:=6,hash:=h,aF:=l} b:=by
 have hf:=Yz l.length h l hh h0 (by omega) h2 h3
 exact⟨hf.1.2.2.2.2.2.2 (.inr rfl),⟨_,hf⟩,by show (2:Int)<=6;decide,by show (6:Int)<=8;decide,(λh=>by cases h),(λh=>by cases h),(λh=>by cases h),λ_=>hb,(λh=>by cases h),λh=>by cases h⟩
theorem SA{k k':Int->I β}{x:Node}{at_:Int}{h v lv:Nat}{key:ByteArray}{gen:Int}(hw:GW g)(hx:x=g.node at_)(hs:Dg g at_ (lv,h%64^lv))(hlv:lv<=11)(hh:h<18446744073709551616)(hkey:key.size<=64)(hne:bR x.key key=false)(hg1:1<=gen)(hg:gen<=g.gen)
  (hk:Km g (lv,h%64^lv) k k'):Sm (uY x at_ h key v gen (11-lv) k) ((nM x at_ h key v lv gen).bind k') g:=by
 have hxh:x.hash%64^lv=h%64^lv:=by rw[hx];exact hs.2
 have hcg:=Nq hxh hlv
 have hcl:=(lV x.hash h 11 0).1
 have hcn:=(lV x.hash h 11 0).2
 have hce:aJ x.hash h=jJ x.hash h 11 0:=rfl
 have hkx:x.key.size<=64:=by rw[hx];exact(hw.D2 hs).key
 rw[Wi x at_ h key v gen (11-lv) k (by omega) (by omega),CA,show 11-(11-lv)=lv by omega]
 unfold OW
 by_cases hc:11<=aJ x.hash h
 ·have e11:aJ x.hash h=11:=by omega
  rw[if_pos hc,if_pos hc,e11]
  have hlen:(gG ⟨x.key,x.value⟩ ⟨key,v⟩).length=2:=by unfold gG;split<;>rfl
  refine .alloc (11,h%64^11) (Pj hh (by omega) (uX _ _ hne) (λq hq=>?_) ⟨rfl,rfl⟩) (mZ rfl (.inl rfl)) λh1 hw1=>?_
  ·unfold gG at hq
   split at hq<;>simp at hq<;>rcases hq with rfl|rfl<;>assumption
  ·refine BA hg1 (11-lv) 11 _ _ hw1 (by omega) (by omega) (by have:=h1.gen;omega) (by simp only[cY];omega) (kQ hw rfl) ?_
   rw[show 11-(11-lv)=lv by omega]
   exact hk.ge h1
 ·rw[if_neg hc,if_neg hc]
  generalize hC:aJ x.hash h=c at *
  have hne2:slice x.hash c≠slice h c:=by rw[hce];exact hcn (by omega)
  have hagree:x.hash%64^c=h%64^c:=Hl c (by omega) λj hj=>Dm x.hash h 11 0 j (Xe _) (by rw[<- hce];exact hj)
  have s1:=zR x.hash c
  have s2:=zR h c
  refine .alloc (0,0) (Bz (.inl rfl) hh hkey (λh=>by cases h)) (wH (.inl rfl)) λh1 hw1=>?_
  have hS:=Cs (g:=g) (n:={kind:=4,hash:=h,key:=key,value:=v}) (i:=0) (b:=(c+1,h%64^(c+1))) (b':=(0,0)) rfl rfl
  have hat:Dg (g.alloc {kind:=4,hash:=h,key:=key,value:=v} 0 (0,0)) at_ (dO (c,h%64^c) (slice x.hash c)):=by
   have hs1:=hs.ge h1
   refine⟨hs1.1,?_⟩
   rw[<- hagree,fP (by omega)]
   rw[h1.node hs.dU,<- hx]
  obtain⟨p1,p2⟩:=Ys (b:=(g.nodes.length:Int)+3) s1.1 s1.2 s2.1 s2.2 hne2 hs.one (by omega)
  have o1:cJ (g.alloc {kind:=4,hash:=h,key:=key,value:=v} 0 (0,0)) (aS {kind:=3} (slice x.hash c) at_).1 (c,h%64^c):=ok_one (by show c<=10;omega) (Nat.mod_lt _ (Nat.pow_pos (by decide))) s1.1 s1.2 (.inr hat)
  obtain⟨o2,_,o3⟩:=uC (i:=slice h c) (r:=(g.nodes.length:Int)+3) o1 (by rw[Ao s1.1 s1.2 hs.one]) p2 s2.1 s2.2 (.inr (by rw[fP (by omega)];exact hS))
  show Sm (.alloc (aS (aS {kind:=3} (slice x.hash c) at_).1 (slice h c) (g.nodes.length+3)).1 0 _) (.alloc (fX (slice x.hash c) at_ (slice h c) (g.nodes.length+3)) 0 _) _
  rw[p1]at o2 o3 ⊢
  refine .alloc (c,h%64^c) o2 (mZ o3 (.inl rfl)) λh2 hw2=>?_
  have e:(g.nodes.length:Int)+3+1=((g.alloc {kind:=4,hash:=h,key:=key,value:=v} 0 (0,0)).nodes.length:Int)+3:=by simp only[cY];omega
  show Sm (Qv h gen (c-lv) ((c:Int)-1) k _) ((gR (Md h gen (c-lv) ((c:Int)-1) ((g.nodes.length:Int)+3+1)) _).bind k') _
  rw[e]
  refine BA hg1 (c-lv) c _ _ hw2 (by omega) (by omega) (by have:=(h1.trans h2).gen;omega) (by simp only[cY];omega) (kQ hw1 o3) ?_
  rw[show c-(c-lv)=lv by omega]
  exact hk.ge (h1.trans h2)
end Go.Ct
end
section
namespace Go.Ct
def X.of(c:Call)(x:X):X:={e:={x.e with call:=c},s:=x.s}
theorem X.of_eq{c:Call}{y:X}(h:y.e.call=c):∃z:X,y=z.of c:=⟨y,by subst h;rfl⟩
variable{x y:X}
theorem Jl{a:Int}{o:Option Int}(h:dY a x=(y,o)):y.e.call=x.e.call:=by
 unfold dY nD rX jR at h;repeat' split at h
 all_goals (cases h;rfl)
theorem JH{a b d:Int}{o:Option Bool}(h:iB a b d x=(y,o)):y.e.call=x.e.call:=by
 unfold iB nD rX jR at h;repeat' split at h
 all_goals (cases h;rfl)
theorem El{n:Node}{i:Int}{o:Option Int}(h:dB n i x=(y,o)):y.e.call=x.e.call:=by
 unfold dB at h;repeat' split at h
 all_goals (cases h;rfl)
theorem La{i:Int}{o:Option Int}(h:fE i x=(y,o)):y.e.call=x.e.call:=by
 unfold fE at h;repeat' split at h
 all_goals (cases h;rfl)
theorem Pa{o:Option Int}(h:iH x=(y,o)):y.e.call=x.e.call:=by
 unfold iH at h;repeat' split at h
 all_goals (cases h;rfl)
theorem sF{α β:Type}{r:X×Option α}{f:α->X->X×Option β}{o:Option β}(hr:∀z o,r=(z,o)->z.e.call=x.e.call)(hf:∀v z o,f v z=(y,o)->y.e.call=z.e.call)(h:iP r f=(y,o)):y.e.call=x.e.call:=by
 obtain⟨z,p⟩:=r
 cases p with
 |none=>cases h;exact hr _ _ rfl
 |some v=>exact(hf v z o h).trans (hr _ _ rfl)
theorem lZ{α:Type}:∀{t:I α} {x y:X} {o:Option α},aX t x=(y,o)->y.e.call=x.e.call
 |.ret a,x,y,o,h=>by unfold aX at h;split at h<;>(cases h;rfl)
 |.load c k,x,y,o,h=>sF (λ_ _=>Jl) (λv z o h=>lZ h) h
 |.eA c a n k,x,y,o,h=>sF (λ_ _=>JH) (λv z o h=>lZ h) h
 |.alloc n i k,x,y,o,h=>sF (λ_ _=>El) (λv z o h=>lZ h) h
 |.cell i k,x,y,o,h=>sF (λ_ _=>La) (λv z o h=>lZ h) h
 |.gen k,x,y,o,h=>sF (λ_ _=>Pa) (λv z o h=>lZ h) h
 |.node r k,x,y,o,h=>by unfold aX at h;exact lZ h
variable{c:Call}
theorem J2{a v:Int}(q:dY a (x.of c)=out y v):∃z,y=X.of c z:=X.of_eq (Jl q)
theorem Lg{n:Node}{i v:Int}(q:dB n i (x.of c)=out y v):∃z,y=X.of c z:=X.of_eq (El q)
theorem F5{i v:Int}(q:fE i (x.of c)=out y v):∃z,y=X.of c z:=X.of_eq (La q)
theorem G5{v:Int}(q:iH (x.of c)=out y v):∃z,y=X.of c z:=X.of_eq (Pa q)
theorem mB{α:Type}{t:I α}{v:α}(q:aX t (x.of c)=out y v):∃z,y=X.of c z:=X.of_eq (lZ q)
end Go.Ct
end
section
namespace Go.Ct
variable{x y:X}
theorem Nf{a:Int}{o:Option Int}(h:dY a x=(y,o)):x.s.aG.length<=y.s.aG.length:=by
 unfold dY nD rX jR St.load at h;repeat' split at h
 all_goals (cases h;exact bD _)
theorem MY{a b d:Int}{o:Option Bool}(h:iB a b d x=(y,o)):x.s.aG.length<=y.s.aG.length:=by
 unfold iB nD rX jR St.eA at h;repeat' split at h
 all_goals (cases h;exact bD _)
theorem Is{n:Node}{i:Int}{o:Option Int}(h:dB n i x=(y,o)):x.s.aG.length<=y.s.aG.length:=by
 unfold dB at h;repeat' split at h
 ·cases h;exact bD _
 ·cases h;have:=(St.lP x.s n i).2.2;dsimp only;omega
 ·cases h;exact bD _
theorem Nz{i:Int}{o:Option Int}(h:fE i x=(y,o)):x.s.aG.length<=y.s.aG.length:=by
 unfold fE St.aV at h;repeat' split at h
 all_goals (cases h;exact bD _)
theorem Vg{o:Option Int}(h:iH x=(y,o)):x.s.aG.length<=y.s.aG.length:=by
 unfold iH St.bS at h;repeat' split at h
 all_goals (cases h;exact bD _)
theorem vM{α β:Type}{r:X×Option α}{f:α->X->X×Option β}{o:Option β}(hr:∀z o,r=(z,o)->x.s.aG.length<=z.s.aG.length)(hf:∀v z o,f v z=(y,o)->z.s.aG.length<=y.s.aG.length)(h:iP r f=(y,o)):x.s.aG.length<=y.s.aG.length:=by
 obtain⟨z,p⟩:=r
 cases p with
 |none=>cases h;exact hr _ _ rfl
 |some v=>exact lK (hr _ _ rfl) (hf v z o h)
theorem pI{α:Type}:∀{t:I α} {x y:X} {o:Option α},aX t x=(y,o)->x.s.aG.length<=y.s.aG.length
 |.ret a,x,y,o,h=>by unfold aX at h;split at h<;>(cases h;exact bD _)
 |.load c k,x,y,o,h=>vM (λ_ _=>Nf) (λv z o h=>pI h) h
 |.eA c a n k,x,y,o,h=>vM (λ_ _=>MY) (λv z o h=>pI h) h
 |.alloc n i k,x,y,o,h=>vM (λ_ _=>Is) (λv z o h=>pI h) h
 |.cell i k,x,y,o,h=>vM (λ_ _=>Nz) (λv z o h=>pI h) h
 |.gen k,x,y,o,h=>vM (λ_ _=>Vg) (λv z o h=>pI h) h
 |.node r k,x,y,o,h=>by unfold aX at h;exact pI h
theorem M8{a v:Int}(q:dY a x=out y v):x.s.aG.length<=y.s.aG.length:=Nf q
theorem Gq{n:Node}{i v:Int}(q:dB n i x=out y v):x.s.aG.length<=y.s.aG.length:=Is q
theorem B7{i v:Int}(q:fE i x=out y v):x.s.aG.length<=y.s.aG.length:=Nz q
theorem A8{v:Int}(q:iH x=out y v):x.s.aG.length<=y.s.aG.length:=Vg q
theorem nY{α:Type}{t:I α}{v:α}(q:aX t x=out y v):x.s.aG.length<=y.s.aG.length:=pI q
theorem Ok.len{j:Nat}(h:Ok j x):x.s.aG.length<=900000000000:=by
 have:=h.zP;unfold X.size St.size cN at this;omega
theorem Ok.lN{j:Nat}(h:Ok j x)(r:Int):(x.node r).Fit x.s.aG.length:=h.fit.node r
theorem Ok.nf{j:Nat}(h:Ok j x)(r:Int):NF (x.node r):=(h.fit.node r).nf h.len
theorem wF{α:Type}{c:Bool}{a b:I α}{x:X}{o:X×Option α}(hc:c=true)(h:aX b x=o):aX (bif !c then a else b) x=o:=by rw[hc];exact h
theorem Zo{α:Type}{c:Bool}{a b:I α}{x:X}{o:X×Option α}(hc:c=false)(h:aX a x=o):aX (bif !c then a else b) x=o:=by rw[hc];exact h
theorem Cd(a b:Nat):((a:Int)==(b:Int))=(a==b):=by rw[Bool.eq_iff_iff,wB,wB];omega
theorem K1{a v:Int}(q:dY a x=out y v):y.left<=x.left:=yX q
theorem Oj{n:Node}{i:Int}{o:Option Int}(h:dB n i x=(y,o)):y.left<=x.left:=by
 unfold dB at h;repeat' split at h
 all_goals (cases h;exact bD _)
theorem Yt{i:Int}{o:Option Int}(h:fE i x=(y,o)):y.left<=x.left:=by
 unfold fE at h;repeat' split at h
 all_goals (cases h;exact bD _)
theorem EQ{o:Option Int}(h:iH x=(y,o)):y.left<=x.left:=by
 unfold iH at h;repeat' split at h
 all_goals (cases h;exact bD _)
theorem w8{n:Node}{i v:Int}(q:dB n i x=out y v):y.left<=x.left:=Oj q
theorem I6{i v:Int}(q:fE i x=out y v):y.left<=x.left:=Yt q
theorem J1{v:Int}(q:iH x=out y v):y.left<=x.left:=EQ q
theorem Az{α β:Type}{r:X×Option α}{f:α->X->X×Option β}{o:Option β}(hr:∀z o,r=(z,o)->z.left<=x.left)(hf:∀v z o,f v z=(y,o)->y.left<=z.left)(h:iP r f=(y,o)):y.left<=x.left:=by
 obtain⟨z,p⟩:=r
 cases p with
 |none=>cases h;exact hr _ _ rfl
 |some v=>exact lK (hf v z o h) (hr _ _ rfl)
theorem sQ{α:Type}:∀{t:I α} {x y:X} {o:Option α},aX t x=(y,o)->y.left<=x.left
 |.ret a,x,y,o,h=>by unfold aX at h;split at h<;>(cases h;exact bD _)
 |.load c k,x,y,o,h=>Az (λ_ _=>yX) (λv z o h=>sQ h) h
 |.eA c a n k,x,y,o,h=>Az (λ_ _=>Mo) (λv z o h=>sQ h) h
 |.alloc n i k,x,y,o,h=>Az (λ_ _=>Oj) (λv z o h=>sQ h) h
 |.cell i k,x,y,o,h=>Az (λ_ _=>Yt) (λv z o h=>sQ h) h
 |.gen k,x,y,o,h=>Az (λ_ _=>EQ) (λv z o h=>sQ h) h
 |.node r k,x,y,o,h=>by unfold aX at h;exact sQ h
theorem UJ{α:Type}{t:I α}{v:α}(q:aX t x=out y v):y.left<=x.left:=sQ q
theorem y0{n:Node}{i v:Int}(q:dB n i x=out y v)(h:x.e.aC=true):y.e.aC=true:=by
 unfold dB at q;rw[if_pos h]at q;have:x=y:=congrArg Prod.fst q;rw[<- this];exact h
theorem I9{v:Int}(q:iH x=out y v)(h:x.e.aC=true):y.e.aC=true:=by
 unfold iH at q;rw[if_pos h]at q;have:x=y:=congrArg Prod.fst q;rw[<- this];exact h
theorem o0{α:Type}{t:I α}{v:α}(q:aX t x=out y v)(h:x.e.aC=true):y.e.aC=true:=by
 rw[cP h]at q;have:x=y:=congrArg Prod.fst q;rw[<- this];exact h
theorem KL{α β γ:Type}(t:I α)(f:α->I β)(g:β->I γ)(x:X):aX ((t.bind f).bind g) x=aX (t.bind λv=>(f v).bind g) x:=by
 rw[iJ,iJ,iJ,rU];exact mX λv y=>(iJ _ _ _).symm
theorem lB{α β γ:Type}{t:I α}{f:α->I β}{g:β->I γ}{x y:X}{v:α}{o:X×Option γ}(q:aX t x=out y v)(h:aX ((f v).bind g) y=o):aX ((t.bind f).bind g) x=o:=(KL t f g x).trans (rB q h)
theorem Ds{α β:Type}{r:Int}{k:Node->I α}{g:α->I β}{x:X}{o:X×Option β}(h:aX ((k (x.node r)).bind g) x=o):aX ((I.node r k).bind g) x=o:=h
theorem Mv{α β:Type}{c:Bool}{a b:I α}{g:α->I β}{x:X}{o:X×Option β}(hc:c=true)(h:aX (a.bind g) x=o):aX ((bif c then a else b).bind g) x=o:=by rw[hc];exact h
theorem oV{α β:Type}{c:Bool}{a b:I α}{g:α->I β}{x:X}{o:X×Option β}(hc:c=false)(h:aX (b.bind g) x=o):aX ((bif c then a else b).bind g) x=o:=by rw[hc];exact h
theorem QT{α:Type}{t t':I α}{y:X}(h:y.e.aC=true):aX t y=aX t' y:=by rw[cP h,cP h]
def WC(c:Call)(k n:Nat):Option Result->I Result
 |some r=>.ret r
 |none=>yN c k n
theorem Cr(c:Call)(k n:Nat):yN c k (n+1)=(tV c.aE).bind λi=>.node i λa=>(Dx c (aH c.key c.aI) a.gen k 0 i 0).bind (WC c k n):=by
 rw[yN];congr 1
def OI(c:Call)(k n:Nat):Option Result->I Result
 |some r=>.ret r
 |none=>pE c k n
theorem zL(c:Call)(k n:Nat):pE c k (n+1)=(tV c.aE).bind λi=>.node i λa=>(sY c (aH c.key c.aI) a.gen k [i] i 0).bind (OI c k n):=by
 rw[pE];congr 1
theorem vE(a b:Nat):((a:Int) != (b:Int))=(a != b):=by unfold bne;rw[Cd]
theorem GJ{α:Type}{a b:Nat}{c:Int}{k:Int->I α}{v:α}{j:Nat}(hx:Ok j x)(hk:∀v,jN a b (k v))(ha:a<=j+99)(q:aX (.load c k) x=out y v):y.e.aC=true\/x.e.aC=false/\y.left<x.left:=by
 cases hs:x.e.aC with
 |true=>rw[cP hs]at q;have q1:x=y:=congrArg Prod.fst q;subst q1;exact .inl hs
 |false=>
  rw[run_load]at q
  obtain⟨z,o,hz⟩:∃z o,dY c x=(z,o):=⟨_,_,rfl⟩
  rw[hz]at q
  cases o with
  |none=>
   have q1:z=y:=congrArg Prod.fst q
   subst q1;exact .inl (Wg hz)
  |some u=>
   have hns:=Uf hz
   obtain⟨k1,k2,k3,_⟩:=Gm hx (show dY c x=out z u by rw[hz,iK hns])
   have:=((hk u).ok (k1.less ha) q).2.2.1
   exact .inr ⟨rfl,by have:=(k3 hns).1;omega⟩
theorem oK{t:bC}{i v:Int}{j:Nat}(hx:Ok j x)(q:aX (oJ t i) x=out y v):y.e.aC=true\/x.e.aC=false/\y.left<x.left:=
 GJ (c:=(x.node i).main) (k:=λm=>wQ t i m) hx (λm=>uB t i m) (by omega) q
theorem BE(t:bC)(v:Int):jN 129 60 (.node v λd=>bif d.kind==2 then .ret v else .node v λd=>.load d.status λs=>bif s==0 then(vR t v).bind λ_=>.node v λd=>.load d.status λs=>Mj t v s else Mj t v s):=
 λj L hj M d hM hd=>gD.bif (λ_=>⟨by omega,hM,trivial⟩) λ_ M2 d2 hM2 hd2 s=>
  gD.bif (λ_=>(vG t v).then (by omega) λj' L' _ hj' hL' _ M4 d4 hM4 hd4 s2=>(rO t v s2).at (by omega) (by omega)) λ_=>(rO t v s).at (by omega) (by omega)
theorem pY{t:bC}{v:Int}{j:Nat}(hx:Ok j x)(hj:30<=j)(q:aX (tV t) x=out y v):y.e.aC=true\/x.e.aC=false/\y.left<x.left:=
 GJ (c:=t.root) hx (λv=>BE t v) (by omega) q
theorem lL{α:Type}{a b:Nat}{t:I α}{Q:α->Prop}{v:α}{j:Nat}(h:jN a b t Q)(hx:Ok j x)(ha:a<=j)(q:aX t x=out y v):y.left<=x.left:=(h.ok (hx.less ha) q).2.2.1
end Go.Ct
end
section
namespace Go.Ct
variable{g:Ga}
theorem NQ{n:Node}{b:fV}(hn:cJ g n b)(hk:n.kind=6):n.Kx=true:=by unfold Node.Kx;rw[hk,hn.valid];rfl
theorem PS{n:Node}{b:fV}{key:ByteArray}{v:Nat}(hn:cJ g n b)(hk:n.kind=6)(hs:key.size<=64):cJ g (grown n key v).1 b/\(grown n key v).2=true/\(grown n key v).1.bM=true:=by
 have hL:=NQ hn hk
 have vf:=fJ hn.valid
 rw[AO hL (by omega)]
 have hp:=vf.tC hk
 have h2:=vf.aF hk
 refine⟨Pj hn.hash (by have:=(Ve n.aF key v hp).1;omega) (Em _ _ _ hp) (λq hq=>Ob n.aF key v (λk=>k.size<=64) ((jF _).1 (vf.short hk)) hs q hq) (hn.l hk),rfl,rfl⟩
structure Kl(g:Ga)(again:I Result)(k':Result×Int->I Result):Prop where
 fin:∀g',Ge g g'->GW g'->∀r:Result,r.aE={}->Sm (.ret r) (k' (r,1)) g'
 AS:∀g',Ge g g'->GW g'->∀r,Sm again (k' (r,0)) g'
theorem Kl.ge{again:I Result}{k':Result×Int->I Result}{g':Ga}(h:Kl g again k')(hg:Ge g g'):Kl g' again k':=⟨λg2 h2=>h.fin g2 (hg.trans h2),λg2 h2=>h.AS g2 (hg.trans h2)⟩
variable{c:Call}{again:I Result}{k':Result×Int->I Result}
theorem CM{f:Bool}{v:Nat}(hw:GW g)(hk:Kl g again k')(ok:Bool):Sm (bif !ok then again else .ret (dL f v)) ((kJ f v ok).bind k') g:=by
 cases ok with
 |true=>exact hk.fin g (Ge.refl hw) hw _ rfl
 |false=>exact hk.AS g (Ge.refl hw) hw _
theorem Se{i m:Int}{n:Node×Bool}{f:Bool}{v:Nat}{b:fV}(hw:GW g)(ht:Tk g c.aE)(hi:jV g i b)(hm:Ul g m b)(hn:cJ g n.1 b/\n.2=true/\n.1.bM=true)(hk:Kl g again k'):
  Sm (Ol c again i m n f v) ((I.alloc n.1 m λr=>(mE c.aE i m r).bind (kJ f v)).bind k') g:=by
 refine Sm.ff (by rw[hn.2.1];rfl) (.alloc b hn.1 (mZ hn.2.2 (.inr hm)) λh1 hw1=>?_)
 refine Sm.as9 (u:=mE c.aE i m _) (Gh hw1 (ht.ge h1) (hi.ge h1) (kQ hw hn.2.2) λg2 h2 hw2 ok=>?_)
 exact CM hw2 (hk.ge (h1.trans h2)) ok
theorem Ws{i m ix r:Int}{n:Node}{f:Bool}{v:Nat}{b:fV}(hw:GW g)(ht:Tk g c.aE)(hi:jV g i b)(hm:Ul g m b)(he:n=g.node m)(hl:(aB n ix).2=true)(hr:jV g r (dO b ix)\/Dg g r (dO b ix))(hk:Kl g again k'):
  Sm (Ol c again i m (aP n ix r) f v) (((nU m ix r).bind λr=>(mE c.aE i m r).bind (kJ f v)).bind k') g:=by
 subst he
 unfold nU
 refine .nr hm.dU ?_
 exact Se hw ht hi hm (yY (hw.ofM hm.m) (Ai hl) hl hr) hk
theorem Gv{h v:Nat}{key:ByteArray}{ix:Int}{b:fV}(e:dO b ix=(b.1+1,h%64^(b.1+1))):Dg (g.alloc {kind:=4,hash:=h,key:=key,value:=v} 0 (0,0)) (g.nodes.length+3) (dO b ix):=
 Cs rfl (by rw[e])
theorem DK(a b:ByteArray):bR a b=bR b a:=by unfold bR;exact Bool.beq_comm
theorem AM{i m:Int}{h:Nat}{level gen:Int}{b:fV}(hw:GW g)(ht:Tk g c.aE)(hi:jV g i b)(hm:Ul g m b)(hk6:(g.node m).kind=6)(hkey:c.key.size<=64)(hk:Kl g again k'):
  Sm (mO c again i m (g.node m)) ((lJ c i m h level gen).bind k') g:=by
 unfold mO lJ
 refine .nr hm.dU ?_
 dsimp only
 rw[show ((g.node m).kind==6)=true by rw[hk6];rfl]
 cases hp:cS c (bB (g.node m).aF c.key).2 (bB (g.node m).aF c.key).1 with
 |false=>exact hk.fin g (Ge.refl hw) hw _ rfl
 |true=>exact Se hw ht hi hm (PS (hw.ofM hm.m) hk6 hkey) hk
theorem Tn(g:Ga):(0:Int)<=g.count:=by unfold Ga.count;omega
theorem NJ{i m:Int}{h l:Nat}{gen:Int}(hw:GW g)(ht:Tk g c.aE)(hi:jV g i (l,h%64^l))(hm:Ul g m (l,h%64^l))(hk3:(g.node m).kind=3)(hl:(aB (g.node m) (slice h l)).2=false)(hh:h<18446744073709551616)(hkey:c.key.size<=64)(hk:Kl g again k'):
  Sm (qY c again h i m (g.node m) (slice h l)) ((lJ c i m h l gen).bind k') g:=by
 unfold qY lJ
 refine .nr hm.dU ?_
 dsimp only
 have hz:(aB (g.node m) (slice h l)).1=0:=by
  rcases Vv hl with q|q
  ·rw[Tr q]
  ·rw[Dd q]
 rw[show ((g.node m).kind==6)=false by rw[hk3];rfl,hl,hz]
 refine .nr (Tn g) ?_
 have hl10:=((hw.ofM hm.m).c hk3).1
 have hs:=zR h l
 cases hp:cS c false 0 with
 |false=>exact hk.fin g (Ge.refl hw) hw _ rfl
 |true=>
  refine .alloc (0,0) (Bz (.inl rfl) hh hkey (λh=>by cases h)) (wH (.inl rfl)) λh1 hw1=>?_
  exact Se hw1 (ht.ge h1) (hi.ge h1) (hm.ge h1) (uC ((hw.ofM hm.m).ge h1) hk3 hl hs.1 hs.2 (.inr (Gv (fP hl10)))) (hk.ge h1)
theorem JD{i m:Int}{h l:Nat}{gen:Int}(hw:GW g)(ht:Tk g c.aE)(hi:jV g i (l,h%64^l))(hm:Ul g m (l,h%64^l))(hl:(aB (g.node m) (slice h l)).2=true)(hs:Dg g (aB (g.node m) (slice h l)).1 (dO (l,h%64^l) (slice h l)))(hh:h<18446744073709551616)(hkey:c.key.size<=64)
  (hg1:1<=gen) (hg:gen<=g.gen) (hk:Kl g again k'):
  Sm (hX c again h i m (g.node m) (slice h l) (aB (g.node m) (slice h l)).1 (g.node (aB (g.node m) (slice h l)).1) l gen) ((lJ c i m h l gen).bind k') g:=by
 have hk3:=Ai hl
 have hl10:=((hw.ofM hm.m).c hk3).1
 have ed:=fP (h:=h) (l:=l) hl10
 generalize hb:(aB (g.node m) (slice h l)).1=b at *
 unfold hX lJ
 refine .nr hm.dU ?_
 dsimp only
 rw[show ((g.node m).kind==6)=false by rw[hk3];rfl,hl,hb]
 refine .nr hs.dU ?_
 dsimp only
 rw[show ((g.node b).kind==2)=false by rw[hs.1];rfl]
 cases hq:bR (g.node b).key c.key with
 |true=>
  cases hp:cS c true (g.node b).value with
  |false=>exact hk.fin g (Ge.refl hw) hw _ rfl
  |true=>
   refine .alloc (0,0) (Bz (.inl rfl) hh hkey (λh=>by cases h)) (wH (.inl rfl)) λh1 hw1=>?_
   exact Ws hw1 (ht.ge h1) (hi.ge h1) (hm.ge h1) (by rw[h1.node hm.dU]) hl (.inr (Gv ed)) (hk.ge h1)
 |false=>
  cases hp:cS c false 0 with
  |false=>exact hk.fin g (Ge.refl hw) hw _ rfl
  |true=>
   refine Sm.ff rfl ?_
   unfold vJ
   rw[show (decide ((l:Int)+1<0)||(decide ((l:Int)+1>11)||decide (gen<1)))=false by simp;omega]
   refine Sm.ff rfl (.nl hs.dU ?_)
   rw[show ((g.node b).kind != 4)=false by rw[hs.1];rfl,show decide (64<c.key.size)=false from dA (by omega),DK,hq]
   have hS:Dg g b (l+1,h%64^(l+1)):=by rw[<- ed];exact hs
   have hcg:=Nq (a:=(g.node b).hash) (b:=h) (c:=l+1) hS.2 (by omega)
   refine Sm.ff rfl (Sm.ff (dA (by omega)) ?_)
   rw[show (11-((l:Int)+1)).toNat=11-(l+1) by omega]
   refine Sm.as9 (u:=nM (g.node b) b h c.key c.value ((l+1:Nat):Int) gen) (SA hw rfl hS (by omega) hh hkey hq hg1 hg λg1 h1 hw1 s hs1=>?_)
   refine Sm.ff rfl (.alloc (l+1,h%64^(l+1)) (rH hg1 (by have:=h1.gen;omega) (by show l+1<=11;omega)) ⟨λ_=>hs1,(λh=>by cases h),λh=>by cases h⟩ λh2 hw2=>?_)
   have hI:=oU hw1 (n:={kind:=2,gen:=gen}) (i:=s) (b:=(l+1,h%64^(l+1))) rfl
   have hg2:=h1.trans h2
   exact Ws hw2 (ht.ge hg2) (hi.ge hg2) (hm.ge hg2) (by rw[hg2.node hm.dU]) hl (.inl (by rw[ed];exact hI)) (hk.ge hg2)
end Go.Ct
end
