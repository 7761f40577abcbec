/- Parts of a proof: E2. -/
import Derived.Test.YtnhdmcipglnkfaaGreatW00
set_option linter.unusedVariables false
set_option linter.unusedSimpArgs false
set_option maxRecDepth 100000
set_option maxHeartbeats 4000000
section
namespace Go.E
inductive At{α:Type}:List α->α->Prop
 |z {a:α} {l:List α}:At (a::l) a
 |s {a b:α} {l:List α}:At l a->At (b::l) a
inductive xG{α:Type}:List α->α->List α->Prop
 |z {a:α} {l:List α}:xG (a::l) a l
 |s {a b:α} {l l':List α}:xG l a l'->xG (b::l) a (b::l')
inductive xO{α:Type}:List α->List α->α->α->Prop
 |z {a b:α} {l:List α}:xO (a::l) (b::l) a b
 |s {a b c:α} {l l':List α}:xO l l' a b->xO (c::l) (c::l') a b
theorem At.ix{α:Type}{l:List α}{a:α}(h:At l a):∃i:Nat,l[i]?=some a:=by
 induction h with
 |z=>exact⟨0,rfl⟩
 |s _ ih=>obtain⟨i,hi⟩:=ih;exact⟨i+1,hi⟩
theorem xG.ix{α:Type}{l l':List α}{a:α}(h:xG l a l'):∃k,k<l.length/\l[k]?=some a/\l'.length+1=l.length/\∀i:Nat,l'[i]?=l[if i<k then i else i+1]?:=by
 induction h with
 |z=>exact⟨0,by simp,rfl,rfl,λi=>by simp⟩
 |s _ ih=>
  obtain⟨k,h0,h1,h2,h3⟩:=ih
  refine⟨k+1,by simp;omega,h1,by simp;omega,λi=>?_⟩
  cases i with
  |zero=>simp
  |succ i=>
   rw[Mb,h3 i]
   by_cases hi:i<k
   ·rw[if_pos hi,if_pos (by omega),Mb]
   ·rw[if_neg hi,if_neg (by omega),Mb]
theorem xO.ix{α:Type}{l l':List α}{a b:α}(h:xO l l' a b):∃k,k<l.length/\l[k]?=some a/\l'[k]?=some b/\l'.length=l.length/\(∀i:Nat,i≠k->l'[i]?=l[i]?):=by
 induction h with
 |z=>exact⟨0,by simp,rfl,rfl,rfl,λi hi=>by cases i with|zero=>exact absurd rfl hi|succ i=>rfl⟩
 |s _ ih=>
  obtain⟨k,h0,h1,h2,h3,h4⟩:=ih
  refine⟨k+1,by simp;omega,h1,h2,by simp[h3],λi hi=>?_⟩
  cases i with
  |zero=>rfl
  |succ i=>exact h4 i (by omega)
theorem xO.set{α:Type}{l l':List α}{a b:α}(h:xO l l' a b):∃k,l[k]?=some a/\l'=l.set k b:=by
 induction h with
 |z=>exact⟨0,rfl,rfl⟩
 |s _ ih=>obtain⟨k,h1,h2⟩:=ih;exact⟨k+1,h1,by rw[h2];rfl⟩
structure As where
 p:World->(Nat->Prop)->(Nat->Prop)->Prop
 loc:∀{w w':World} {O R:Nat->Prop},p w O R->(w'.os=w.os/\w'.tape=w.tape/\w'.output=w.output/\w.heap.size<=w'.heap.size)->(∀k,O k\/R k->w'.heap[k]?=w.heap[k]?)->p w' O R
 DC:∀{w:World} {O R:Nat->Prop} {k:Nat},p w O R->O k\/R k->k<w.heap.size
 DZ:∀{w:World} {O R:Nat->Prop} {k:Nat},p w O R->O k->¬R k
def gP(B w:World):Prop:=w.os=B.os/\w.tape=B.tape/\w.output=B.output
theorem gP.trans{a b c:World}(h:gP a b)(k:gP b c):gP a c:=⟨k.1.trans h.1,k.2.1.trans h.2.1,k.2.2.trans h.2.2⟩
theorem gP.refl(w:World):gP w w:=⟨rfl,rfl,rfl⟩
def SH(B w:World)(L:List As):Prop:=
 gP B w/\∃O R:Nat->Nat->Prop,(∀(i:Nat) (a:As),L[i]?=some a->a.p w (O i) (R i))/\∀i j k:Nat,i≠j->i<L.length->j<L.length->O i k->¬O j k/\¬R j k
variable{B w w':World}{L L':List As}{A A':As}
theorem SH.re(h:SH B w L)(f:Nat->Nat)(hf:∀i,i<L'.length->f i<L.length/\L'[i]?=L[f i]?)(hi:∀i j,i<L'.length->j<L'.length->f i=f j->i=j):SH B w L':=by
 obtain⟨hs,O,R,h1,h2⟩:=h
 refine⟨hs,λi=>O (f i),λi=>R (f i),λi a ha=>?_,λi j k hij TZ hjl hO=>h2 _ _ k (λe=>hij (hi i j TZ hjl e)) (hf i TZ).1 (hf j hjl).1 hO⟩
 have TZ:=(List.getElem?_eq_some_iff.1 ha).1
 exact h1 _ a (by rw[<- (hf i TZ).2];exact ha)
theorem SH.f1(h:SH B w L)(r:xG L A L'):SH B w (A::L'):=by
 obtain⟨k,h0,h1,h2,h3⟩:=r.ix
 refine h.re (λi=>if i=0 then k else if i-1<k then i-1 else i) ?_ ?_
 ·intro i hi
  cases i with
  |zero=>exact⟨h0,by simp[h1]⟩
  |succ i=>
   simp only[Hd]at hi
   have:=h3 i
   refine⟨?_,?_⟩
   ·rw[if_neg (show ¬(i+1=0) by omega),YA];split<;>omega
   ·rw[Mb,this,if_neg (show ¬(i+1=0) by omega),YA]
 ·intro i j hi hj e
  simp only[Hd]at hi hj
  split at e<;>split at e<;>(try split at e)<;>(try split at e)<;>omega
theorem SH.drop(h:SH B w (A::L)):SH B w L:=h.re (λi=>i+1) (λi hi=>⟨by simp;omega,by simp⟩) (λi j _ _ e=>by omega)
theorem SH.back(h:SH B w (A::L))(r:xG L' A L):SH B w L':=by
 obtain⟨k,h0,h1,h2,h3⟩:=r.ix
 refine h.re (λi=>if i=k then 0 else if i<k then i+1 else i) ?_ ?_
 ·intro i hi
  by_cases e:i=k
  ·subst e;exact⟨by simp,by simp[h1]⟩
  ·rw[if_neg e]
   by_cases hlt:i<k
   ·rw[if_pos hlt]
    refine⟨by simp;omega,?_⟩
    rw[Mb,h3 i,if_pos hlt]
   ·rw[if_neg hlt]
    obtain⟨j,rfl⟩:∃j,i=j+1:=⟨i-1,by omega⟩
    refine⟨by simp;omega,?_⟩
    rw[Mb,h3 j,if_neg (by omega)]
 ·intro i j hi hj e
  split at e<;>split at e<;>(try split at e)<;>(try split at e)<;>omega
theorem xG.pre{α:Type}{l l':List α}{a:α}(r:xG l a l'):∀p:List α,xG (p++l) a (p++l')
 |[]=>r
 |b::p=>.s (r.pre p)
theorem xG.mid{α:Type}(a:α)(l:List α):∀p:List α,xG (p++a::l) a (p++l)
 |[]=>.z
 |b::p=>.s (xG.mid a l p)
inductive Sel{α:Type}:List α->List α->List α->Prop
 |n {l:List α}:Sel l [] l
 |c {l l1 l2 as9:List α} {a:α}:xG l a l1->Sel l1 as9 l2->Sel l (a::as9) l2
theorem SH.fr'{l l' as9:List As}(r:Sel l as9 l'):∀(p:List As),SH B w (p++l)->SH B w (p++(as9++l')):=by
 induction r with
 |n=>exact λp h=>h
 |c r _ ih=>
  intro p h
  have h1:=(h.f1 (r.pre p)).back (xG.mid _ _ p)
  have h2:=ih (p++[_]) (by simpa using h1)
  simpa using h2
theorem SH.fr{l l' as9:List As}(h:SH B w l)(r:Sel l as9 l'):SH B w (as9++l'):=SH.fr' r [] h
structure Kp(F:Nat->Prop)(w w':World):Prop where
 same:gP w w'
 size:w.heap.size<=w'.heap.size
 block:∀k,k<w.heap.size->¬F k->w'.heap[k]?=w.heap[k]?
theorem Kp.refl(F:Nat->Prop)(w:World):Kp F w w:=⟨gP.refl w,aW _,λ_ _ _=>rfl⟩
theorem Kp.alloc(F:Nat->Prop)(w:World)(o:Obj):Kp F w (w.alloc o):=⟨⟨rfl,rfl,rfl⟩,by simp,λk hk _=>heap_alloc_old w o k hk⟩
theorem Kp.trans{F:Nat->Prop}{a b c:World}(h:Kp F a b)(k:Kp F b c):Kp F a c:=
 ⟨h.same.trans k.same,kR h.size k.size,λi hi hn=>(k.block i (Lz hi h.size) hn).trans (h.block i hi hn)⟩
theorem SH.same(h:SH B w L):gP B w:=h.1
theorem SH.drew(h:SH B w L):SH B w.drew L:=by
 obtain⟨hs,O,R,h1,h2⟩:=h
 exact⟨⟨hs.1,hs.2.1,hs.2.2⟩,O,R,λi a ha=>a.loc (h1 i a ha) ⟨rfl,rfl,rfl,aW _⟩ (λ_ _=>rfl),h2⟩
theorem SH.step(h:SH B w L)(u:xO L L' A A')(hw:∀O R,A.p w O R->∃O' R',A'.p w' O' R'/\Kp O w w'/\(∀k,O' k->O k\/w.heap.size<=k)/\(∀k,R' k->O k\/R k\/w.heap.size<=k)):SH B w' L':=by
 obtain⟨hs,O,R,h1,h2⟩:=h
 obtain⟨m,m0,m1,m2,m3,m4⟩:=u.ix
 obtain⟨O',R',g1,g2,g3,g4⟩:=hw _ _ (h1 m A m1)
 have hlt:∀i k,i<L.length->O i k\/R i k->k<w.heap.size:=λi k hi hk=>by
  have hg:L[i]?=some L[i]:=fV hi
  exact L[i].DC (h1 i _ hg) hk
 refine⟨hs.trans g2.same,λi=>if i=m then O' else O i,λi=>if i=m then R' else R i,λi a ha=>?_,λi j k hij hi hj=>?_⟩
 ·by_cases e:i=m
  ·subst e
   rw[m2]at ha;injection ha with ha;subst ha
   dsimp only;rw[if_pos rfl,if_pos rfl];exact g1
  ·rw[m4 i e]at ha
   dsimp only;rw[if_neg e,if_neg e]
   have hi:=(List.getElem?_eq_some_iff.1 ha).1
   refine a.loc (h1 i a ha) ⟨g2.same.1,g2.same.2.1,g2.same.2.2,g2.size⟩ (λk hk=>g2.block k (hlt i k hi hk) (λho=>?_))
   have:=h2 m i k (Ne.symm e) m0 hi ho
   rcases hk with hk|hk
   ·exact this.1 hk
   ·exact this.2 hk
 ·rw[m3]at hi hj
  dsimp only
  by_cases e:i=m
  ·subst e
   rw[if_pos rfl,if_neg (Ne.symm hij),if_neg (Ne.symm hij)]
   intro ho
   rcases g3 k ho with ho|ho
   ·exact h2 _ j k hij hi hj ho
   ·exact⟨λhx=>by have:=hlt j k hj (.inl hx);omega,λhx=>by have:=hlt j k hj (.inr hx);omega⟩
  ·rw[if_neg e]
   by_cases e2:j=m
   ·subst e2
    rw[if_pos rfl,if_pos rfl]
    intro ho
    have hb:=hlt i k hi (.inl ho)
    refine⟨λhx=>?_,λhx=>?_⟩
    ·rcases g3 k hx with hx|hx
     ·exact(h2 i _ k hij hi hj ho).1 hx
     ·omega
    ·rcases g4 k hx with hx|hx|hx
     ·exact(h2 i _ k hij hi hj ho).1 hx
     ·exact(h2 i _ k hij hi hj ho).2 hx
     ·omega
   ·rw[if_neg e2,if_neg e2];exact h2 i j k hij hi hj
theorem SH.new(h:SH B w L)(hk:Kp (λ_=>False) w w'){O R:Nat->Prop}(hA:A.p w' O R)(hO:∀k,O k->w.heap.size<=k)(hR:∀k,R k->w.heap.size<=k):SH B w' (A::L):=by
 obtain⟨hs,O1,R1,h1,h2⟩:=h
 have hlt:∀i k,i<L.length->O1 i k\/R1 i k->k<w.heap.size:=λi k hi hk=>by
  have hg:L[i]?=some L[i]:=fV hi
  exact L[i].DC (h1 i _ hg) hk
 refine⟨hs.trans hk.same,λi=>match i with|0=>O|i+1=>O1 i,λi=>match i with|0=>R|i+1=>R1 i,λi a ha=>?_,λi j k hij hi hj=>?_⟩
 ·cases i with
  |zero=>simp only[NK,Bs]at ha;subst ha;exact hA
  |succ i=>
   rw[Mb]at ha
   have hi:=(List.getElem?_eq_some_iff.1 ha).1
   exact a.loc (h1 i a ha) ⟨hk.same.1,hk.same.2.1,hk.same.2.2,hk.size⟩ (λk S4=>hk.block k (hlt i k hi S4) id)
 ·simp only[Hd]at hi hj
  cases i with
  |zero=>
   cases j with
   |zero=>exact absurd rfl hij
   |succ j=>
    intro ho
    have:=hO k ho
    exact⟨λhx=>by have:=hlt j k (by omega) (.inl hx);omega,λhx=>by have:=hlt j k (by omega) (.inr hx);omega⟩
  |succ i=>
   cases j with
   |zero=>
    intro ho
    have:=hlt i k (by omega) (.inl ho)
    exact⟨λhx=>by have:=hO k hx;omega,λhx=>by have:=hR k hx;omega⟩
   |succ j=>exact h2 i j k (by omega) (by omega) (by omega)
theorem SH.dup(h:SH B w L)(m:At L A)(hw:∀O R,A.p w O R->∃R',A'.p w (λ_=>False) R'/\∀k,R' k->R k):SH B w (A'::L):=by
 obtain⟨hs,O1,R1,h1,h2⟩:=h
 obtain⟨m,hm⟩:=m.ix
 have hml:=(List.getElem?_eq_some_iff.1 hm).1
 obtain⟨R',g1,g2⟩:=hw _ _ (h1 m A hm)
 refine⟨hs,λi=>match i with|0=>λ_=>False|i+1=>O1 i,λi=>match i with|0=>R'|i+1=>R1 i,λi a ha=>?_,λi j k hij hi hj=>?_⟩
 ·cases i with
  |zero=>simp only[NK,Bs]at ha;subst ha;exact g1
  |succ i=>exact h1 i a ha
 ·simp only[Hd]at hi hj
  cases i with
  |zero=>exact λh=>h.elim
  |succ i=>
   cases j with
   |zero=>
    intro ho
    refine⟨λh=>h.elim,λhx=>?_⟩
    by_cases e:i=m
    ·subst e;exact A.DZ (h1 i A hm) ho (g2 k hx)
    ·exact(h2 i m k e (by omega) hml ho).2 (g2 k hx)
   |succ j=>exact h2 i j k (by omega) (by omega) (by omega)
theorem SH.at_(h:SH B w L)(m:At L A):∃O R,A.p w O R:=by
 obtain⟨hs,O1,R1,h1,h2⟩:=h
 obtain⟨m,hm⟩:=m.ix
 exact⟨_,_,h1 m A hm⟩
def bl(b:Nat)(cs:List Value)(t:TypeId):As where
 p w O R:=w.heap[b]?=some (.cells cs.toArray t (0,0))/\(∀k,O k↔k=b)/\∀k,¬R k
 loc h _ hk:=⟨by rw[hk b (.inl ((h.2.1 b).2 rfl))];exact h.1,h.2⟩
 DC h hk:=by
  rcases hk with hk|hk
  ·rw[(h.2.1 _).1 hk];exact(Array.getElem?_eq_some_iff.1 h.1).1
  ·exact absurd hk (h.2.2 _)
 DZ h _:=h.2.2 _
def rb(b:Nat)(cs:List Value)(t:TypeId):As where
 p w O R:=w.heap[b]?=some (.cells cs.toArray t (0,0))/\(∀k,¬O k)/\∀k,R k↔k=b
 loc h _ hk:=⟨by rw[hk b (.inr ((h.2.2 b).2 rfl))];exact h.1,h.2⟩
 DC h hk:=by
  rcases hk with hk|hk
  ·exact absurd hk (h.2.1 _)
  ·rw[(h.2.2 _).1 hk];exact(Array.getElem?_eq_some_iff.1 h.1).1
 DZ h hk:=absurd hk (h.2.1 _)
def aV(e:TypeId)(sz:Nat)(v:Value)(n:Nat)(xs:List Value):As where
 p w O R:=w.ownsRow 0 e sz v n xs/\(∀k,O k↔v.ownBlock=some k)/\∀k,¬R k
 loc {w w' O R} h _ hk:=by
  refine⟨⟨h.1.1,?_⟩,h.2⟩
  rcases h.1.2 with hn|⟨g,cap,cur,rfl,hb,hg,rest⟩
  ·exact .inl hn
  ·exact .inr ⟨g,cap,cur,rfl,hb,by rw[hk g (.inl ((h.2.1 g).2 rfl))];exact hg,rest⟩
 DC h hk:=by
  rcases hk with hk|hk
  ·exact(h.1.lt _ ((h.2.1 _).1 hk)).2
  ·exact absurd hk (h.2.2 _)
 DZ h _:=h.2.2 _
def Reads(w:World)(sz:Nat)(v:Value)(n:Nat)(xs:List Value):Prop:=
 xs.length=n*sz/\((v=.slice none 0 0/\n=0)\/∃b off cap,v=.slice (some ⟨b,off,none⟩) n cap/\b<w.heap.size/\n<=cap/\cap<=maxLen/\∀j u,xs[j]?=some u->w.cell? ⟨b,off+j,none⟩=some u)
def bS(sz:Nat)(v:Value)(n:Nat)(xs:List Value):As where
 p w O R:=Reads w sz v n xs/\(∀k,¬O k)/\∀k,R k↔v.ownBlock=some k
 loc {w w' O R} h _ hk:=by
  refine⟨⟨h.1.1,?_⟩,h.2⟩
  rcases h.1.2 with hn|⟨b,off,cap,rfl,hb,h1,h2,h3⟩
  ·exact .inl hn
  ·have e:=hk b (.inr ((h.2.2 b).2 rfl))
   have CU:b<w'.heap.size:=by
    rw[WH hb]at e
    exact(Array.getElem?_eq_some_iff.1 e).1
   exact .inr ⟨b,off,cap,rfl,CU,h1,h2,λj u hu=>(World.cell?_of_block e).trans (h3 j u hu)⟩
 DC {w O R k} h hk:=by
  rcases hk with hk|hk
  ·exact absurd hk (h.2.1 _)
  ·have hk:=(h.2.2 _).1 hk
   rcases h.1.2 with⟨rfl,_⟩|⟨b,off,cap,rfl,hb,_⟩
   ·cases hk
   ·injection hk with hk;exact hk▸hb
 DZ h hk:=absurd hk (h.2.1 _)
def pu(p:Prop):As where
 p w O R:=p/\(∀k,¬O k)/\∀k,¬R k
 loc h _ _:=h
 DC h hk:=by rcases hk with hk|hk;exact absurd hk (h.2.1 _);exact absurd hk (h.2.2 _)
 DZ h hk:=absurd hk (h.2.1 _)
def ex{α:Type}(f:α->As):As where
 p w O R:=∃x,(f x).p w O R
 loc h hz hk:=by obtain⟨x,h⟩:=h;exact⟨x,(f x).loc h hz hk⟩
 DC h hk:=by obtain⟨x,h⟩:=h;exact(f x).DC h hk
 DZ h hk:=by obtain⟨x,h⟩:=h;exact(f x).DZ h hk
def se(l:List As):As where
 p w O R:=∃Os Rs:Nat->Nat->Prop,(∀(i:Nat) (a:As),l[i]?=some a->a.p w (Os i) (Rs i))/\(∀i j k:Nat,i≠j->i<l.length->j<l.length->Os i k->¬Os j k/\¬Rs j k)/\
  (∀k,O k↔∃i,i<l.length/\Os i k)/\∀k,R k↔∃i,i<l.length/\Rs i k
 loc h hz hk:=by
  obtain⟨Os,Rs,h1,h2,h3,h4⟩:=h
  refine⟨Os,Rs,λi a ha=>a.loc (h1 i a ha) hz (λk S4=>hk k ?_),h2,h3,h4⟩
  have hi:=(List.getElem?_eq_some_iff.1 ha).1
  exact S4.imp (λh=>(h3 k).2 ⟨i,hi,h⟩) (λh=>(h4 k).2 ⟨i,hi,h⟩)
 DC {w O R k} h hk:=by
  obtain⟨Os,Rs,h1,h2,h3,h4⟩:=h
  have:∃i,i<l.length/\(Os i k\/Rs i k):=hk.elim (λh=>let ⟨i,a,b⟩:=(h3 k).1 h;⟨i,a,.inl b⟩) (λh=>let ⟨i,a,b⟩:=(h4 k).1 h;⟨i,a,.inr b⟩)
  obtain⟨i,hi,hb⟩:=this
  exact l[i].DC (h1 i _ (fV hi)) hb
 DZ {w O R k} h hk S4:=by
  obtain⟨Os,Rs,h1,h2,h3,h4⟩:=h
  obtain⟨i,hi,hb⟩:=(h3 k).1 hk
  obtain⟨j,hj,hc⟩:=(h4 k).1 S4
  by_cases e:i=j
  ·subst e;exact l[i].DZ (h1 i _ (fV hi)) hb hc
  ·exact(h2 i j k e hi hj hb).2 hc
theorem SH.ex{α:Type}{f:α->As}(h:SH B w (ex f::L)):∃x,SH B w (f x::L):=by
 obtain⟨hs,O,R,h1,h2⟩:=h
 obtain⟨x,hx⟩:=h1 0 _ rfl
 refine⟨x,hs,O,R,λi a ha=>?_,λi j k hij hi hj=>h2 i j k hij (by simpa using hi) (by simpa using hj)⟩
 cases i with
 |zero=>simp only[NK,Bs]at ha;subst ha;exact hx
 |succ i=>exact h1 (i+1) a ha
theorem SH.wk(h:SH B w (A::L))(hw:∀O R,A.p w O R->∃O' R',A'.p w O' R'/\(∀k,O' k->O k)/\∀k,R' k->O k\/R k):SH B w (A'::L):=
 h.step .z λO R hA=>let ⟨O',R',a,b,c⟩:=hw O R hA;⟨O',R',a,Kp.refl _ _,λk hk=>.inl (b k hk),λk hk=>(c k hk).imp id .inl⟩
theorem SH.bX{α:Type}{f:α->As}(x:α)(h:SH B w (f x::L)):SH B w (Go.E.ex f::L):=h.wk λO R hA=>⟨O,R,⟨x,hA⟩,λ_ h=>h,λ_ h=>.inr h⟩
theorem SH.pu{p:Prop}(h:SH B w (pu p::L)):p/\SH B w L:=⟨by obtain⟨_,_,h1⟩:=h.at_ .z;exact h1.1,h.drop⟩
theorem SH.ip{p:Prop}(hp:p)(h:SH B w L):SH B w (Go.E.pu p::L):=h.new (Kp.refl _ _) (O:=λ_=>False) (R:=λ_=>False) ⟨hp,λ_ h=>h,λ_ h=>h⟩ (λ_ h=>h.elim) (λ_ h=>h.elim)
theorem SH.se{l:List As}(h:SH B w (se l::L)):SH B w (l++L):=by
 obtain⟨hs,O,R,h1,h2⟩:=h
 obtain⟨Os,Rs,g1,g2,g3,g4⟩:=h1 0 _ rfl
 refine⟨hs,λi=>if i<l.length then Os i else O (i-l.length+1),λi=>if i<l.length then Rs i else R (i-l.length+1),λi a ha=>?_,λi j k hij hi hj=>?_⟩
 ·by_cases hi:i<l.length
  ·rw[vS hi]at ha
   dsimp only;rw[if_pos hi,if_pos hi];exact g1 i a ha
  ·rw[tN (by omega)]at ha
   dsimp only;rw[if_neg hi,if_neg hi];exact h1 (i-l.length+1) a (by simpa using ha)
 ·rw[cV]at hi hj
  dsimp only
  by_cases a:i<l.length<;>by_cases b:j<l.length
  ·rw[if_pos a,if_pos b,if_pos b];exact g2 i j k hij a b
  ·rw[if_pos a,if_neg b,if_neg b]
   intro ho
   exact h2 0 (j-l.length+1) k (by omega) (by simp) (by simp;omega) ((g3 k).2 ⟨i,a,ho⟩)
  ·rw[if_neg a,if_pos b,if_pos b]
   intro ho
   have:=h2 (i-l.length+1) 0 k (by omega) (by simp;omega) (by simp) ho
   exact⟨λhx=>this.1 ((g3 k).2 ⟨j,b,hx⟩),λhx=>this.2 ((g4 k).2 ⟨j,b,hx⟩)⟩
  ·rw[if_neg a,if_neg b,if_neg b]
   exact h2 _ _ k (by omega) (by simp;omega) (by simp;omega)
theorem SH.is{l:List As}(h:SH B w (l++L)):SH B w (Go.E.se l::L):=by
 obtain⟨hs,O,R,h1,h2⟩:=h
 refine⟨hs,λi=>match i with|0=>λk=>∃i,i<l.length/\O i k|i+1=>O (i+l.length),λi=>match i with|0=>λk=>∃i,i<l.length/\R i k|i+1=>R (i+l.length),λi a ha=>?_,λi j k hij hi hj=>?_⟩
 ·cases i with
  |zero=>
   simp only[NK,Bs]at ha;subst ha
   refine⟨O,R,λi a ha=>h1 i a ?_,λi j k hij hi hj=>h2 i j k hij (by rw[cV];omega) (by rw[cV];omega),λk=>Iff.rfl,λk=>Iff.rfl⟩
   rw[vS (List.getElem?_eq_some_iff.1 ha).1];exact ha
  |succ i=>
   exact h1 (i+l.length) a (by rw[tN (by omega),YA];exact ha)
 ·simp only[Hd]at hi hj
  have hl:=cV (as:=l) (bs:=L)
  cases i with
  |zero=>
   cases j with
   |zero=>exact absurd rfl hij
   |succ j=>
    rintro⟨i,hi',ho⟩
    exact h2 i (j+l.length) k (by omega) (by omega) (by omega) ho
  |succ i=>
   cases j with
   |zero=>
    intro ho
    refine⟨?_,?_⟩
    ·rintro⟨j,oU,hx⟩;exact(h2 (i+l.length) j k (by omega) (by omega) (by omega) ho).1 hx
    ·rintro⟨j,oU,hx⟩;exact(h2 (i+l.length) j k (by omega) (by omega) (by omega) ho).2 hx
   |succ j=>exact h2 (i+l.length) (j+l.length) k (by omega) (by omega) (by omega)
def Hs(F:List As)(w:World):Prop:=∀A,At F A->∃O R,A.p w O R
theorem SH.hs{F L':List As}(h:SH B w L)(r:Sel L F L'):Hs F w:=λA m=>by
 have h1:=h.fr r
 obtain⟨i,hi⟩:=m.ix
 have hl:=(List.getElem?_eq_some_iff.1 hi).1
 obtain⟨hs,O,R,h2,_⟩:=h1
 exact⟨_,_,h2 i A (by rw[vS hl];exact hi)⟩
theorem SH.c{b:Nat}{cs:List Value}{t:TypeId}{j:Nat}{v:Value}(h:SH B w L)(m:At L (bl b cs t))(hj:cs[j]?=some v):w.cell? ⟨b,j,none⟩=some v:=by
 obtain⟨_,_,h1⟩:=h.at_ m
 simp[World.cell?,h1.1,hj]
theorem Hs.c{F:List As}{b:Nat}{cs:List Value}{t:TypeId}{j:Nat}{v:Value}(h:Hs F w)(m:At F (bl b cs t))(hj:cs[j]?=some v):w.cell? ⟨b,j,none⟩=some v:=by
 obtain⟨_,_,h1⟩:=h _ m
 simp[World.cell?,h1.1,hj]
theorem SH.b{b:Nat}{cs:List Value}{t:TypeId}(h:SH B w L)(m:At L (bl b cs t)):w.heap[b]?=some (.cells cs.toArray t (0,0)):=by
 obtain⟨_,_,h1⟩:=h.at_ m;exact h1.1
theorem Hs.b{F:List As}{b:Nat}{cs:List Value}{t:TypeId}(h:Hs F w)(m:At F (bl b cs t)):w.heap[b]?=some (.cells cs.toArray t (0,0)):=by
 obtain⟨_,_,h1⟩:=h _ m;exact h1.1
theorem fD{P:Program}{n:Nat}{K:kG}{e:Tm}{ops:Array Oper}{id:Nat}{F:List As}(is:List Nat)(hc:BX P ops (dec is)=true)(h:SH B w L)(r:Sel L F L')(k:∀w,SH B w L->XS P n ops (Hs F) (opsOf ops (dec is)) K e w):C P n (.region id ops true) K e w:=
 dr (Hs F) (dec is) hc (h.drew.hs r) (k _ h.drew)
theorem a0{α:Type}{x0:α}{l:List α}:At (x0::l) x0:=.z
theorem a1{α:Type}{x0 x1:α}{l:List α}:At (x0::x1::l) x1:=(.s .z)
theorem a2{α:Type}{x0 x1 x2:α}{l:List α}:At (x0::x1::x2::l) x2:=(.s (.s .z))
theorem a3{α:Type}{x0 x1 x2 x3:α}{l:List α}:At (x0::x1::x2::x3::l) x3:=(.s (.s (.s .z)))
theorem a4{α:Type}{x0 x1 x2 x3 x4:α}{l:List α}:At (x0::x1::x2::x3::x4::l) x4:=(.s (.s (.s (.s .z))))
theorem a5{α:Type}{x0 x1 x2 x3 x4 x5:α}{l:List α}:At (x0::x1::x2::x3::x4::x5::l) x5:=(.s (.s (.s (.s (.s .z)))))
theorem a6{α:Type}{x0 x1 x2 x3 x4 x5 x6:α}{l:List α}:At (x0::x1::x2::x3::x4::x5::x6::l) x6:=(.s (.s (.s (.s (.s (.s .z))))))
theorem a7{α:Type}{x0 x1 x2 x3 x4 x5 x6 x7:α}{l:List α}:At (x0::x1::x2::x3::x4::x5::x6::x7::l) x7:=(.s (.s (.s (.s (.s (.s (.s .z)))))))
theorem a8{α:Type}{x0 x1 x2 x3 x4 x5 x6 x7 x8:α}{l:List α}:At (x0::x1::x2::x3::x4::x5::x6::x7::x8::l) x8:=(.s (.s (.s (.s (.s (.s (.s (.s .z))))))))
theorem a9{α:Type}{x0 x1 x2 x3 x4 x5 x6 x7 x8 x9:α}{l:List α}:At (x0::x1::x2::x3::x4::x5::x6::x7::x8::x9::l) x9:=(.s (.s (.s (.s (.s (.s (.s (.s (.s .z)))))))))
theorem a10{α:Type}{x0 x1 x2 x3 x4 x5 x6 x7 x8 x9 Db:α}{l:List α}:At (x0::x1::x2::x3::x4::x5::x6::x7::x8::x9::Db::l) Db:=(.s (.s (.s (.s (.s (.s (.s (.s (.s (.s .z))))))))))
theorem a11{α:Type}{x0 x1 x2 x3 x4 x5 x6 x7 x8 x9 Db Jy:α}{l:List α}:At (x0::x1::x2::x3::x4::x5::x6::x7::x8::x9::Db::Jy::l) Jy:=(.s (.s (.s (.s (.s (.s (.s (.s (.s (.s (.s .z)))))))))))
theorem a12{α:Type}{x0 x1 x2 x3 x4 x5 x6 x7 x8 x9 Db Jy Ue:α}{l:List α}:At (x0::x1::x2::x3::x4::x5::x6::x7::x8::x9::Db::Jy::Ue::l) Ue:=(.s (.s (.s (.s (.s (.s (.s (.s (.s (.s (.s (.s .z))))))))))))
theorem a13{α:Type}{x0 x1 x2 x3 x4 x5 x6 x7 x8 x9 Db Jy Ue JP:α}{l:List α}:At (x0::x1::x2::x3::x4::x5::x6::x7::x8::x9::Db::Jy::Ue::JP::l) JP:=(.s (.s (.s (.s (.s (.s (.s (.s (.s (.s (.s (.s (.s .z)))))))))))))
theorem a14{α:Type}{x0 x1 x2 x3 x4 x5 x6 x7 x8 x9 Db Jy Ue JP ZG:α}{l:List α}:At (x0::x1::x2::x3::x4::x5::x6::x7::x8::x9::Db::Jy::Ue::JP::ZG::l) ZG:=(.s (.s (.s (.s (.s (.s (.s (.s (.s (.s (.s (.s (.s (.s .z))))))))))))))
theorem a15{α:Type}{x0 x1 x2 x3 x4 x5 x6 x7 x8 x9 Db Jy Ue JP ZG x15:α}{l:List α}:At (x0::x1::x2::x3::x4::x5::x6::x7::x8::x9::Db::Jy::Ue::JP::ZG::x15::l) x15:=(.s (.s (.s (.s (.s (.s (.s (.s (.s (.s (.s (.s (.s (.s (.s .z)))))))))))))))
theorem r0{α:Type}{x0:α}{l:List α}:xG (x0::l) x0 (l):=.z
theorem r1{α:Type}{x0 x1:α}{l:List α}:xG (x0::x1::l) x1 (x0::l):=(.s .z)
theorem r2{α:Type}{x0 x1 x2:α}{l:List α}:xG (x0::x1::x2::l) x2 (x0::x1::l):=(.s (.s .z))
theorem r3{α:Type}{x0 x1 x2 x3:α}{l:List α}:xG (x0::x1::x2::x3::l) x3 (x0::x1::x2::l):=(.s (.s (.s .z)))
theorem r4{α:Type}{x0 x1 x2 x3 x4:α}{l:List α}:xG (x0::x1::x2::x3::x4::l) x4 (x0::x1::x2::x3::l):=(.s (.s (.s (.s .z))))
theorem r5{α:Type}{x0 x1 x2 x3 x4 x5:α}{l:List α}:xG (x0::x1::x2::x3::x4::x5::l) x5 (x0::x1::x2::x3::x4::l):=(.s (.s (.s (.s (.s .z)))))
theorem r6{α:Type}{x0 x1 x2 x3 x4 x5 x6:α}{l:List α}:xG (x0::x1::x2::x3::x4::x5::x6::l) x6 (x0::x1::x2::x3::x4::x5::l):=(.s (.s (.s (.s (.s (.s .z))))))
theorem r7{α:Type}{x0 x1 x2 x3 x4 x5 x6 x7:α}{l:List α}:xG (x0::x1::x2::x3::x4::x5::x6::x7::l) x7 (x0::x1::x2::x3::x4::x5::x6::l):=(.s (.s (.s (.s (.s (.s (.s .z)))))))
theorem r8{α:Type}{x0 x1 x2 x3 x4 x5 x6 x7 x8:α}{l:List α}:xG (x0::x1::x2::x3::x4::x5::x6::x7::x8::l) x8 (x0::x1::x2::x3::x4::x5::x6::x7::l):=(.s (.s (.s (.s (.s (.s (.s (.s .z))))))))
theorem r9{α:Type}{x0 x1 x2 x3 x4 x5 x6 x7 x8 x9:α}{l:List α}:xG (x0::x1::x2::x3::x4::x5::x6::x7::x8::x9::l) x9 (x0::x1::x2::x3::x4::x5::x6::x7::x8::l):=(.s (.s (.s (.s (.s (.s (.s (.s (.s .z)))))))))
theorem r10{α:Type}{x0 x1 x2 x3 x4 x5 x6 x7 x8 x9 Db:α}{l:List α}:xG (x0::x1::x2::x3::x4::x5::x6::x7::x8::x9::Db::l) Db (x0::x1::x2::x3::x4::x5::x6::x7::x8::x9::l):=(.s (.s (.s (.s (.s (.s (.s (.s (.s (.s .z))))))))))
theorem r11{α:Type}{x0 x1 x2 x3 x4 x5 x6 x7 x8 x9 Db Jy:α}{l:List α}:xG (x0::x1::x2::x3::x4::x5::x6::x7::x8::x9::Db::Jy::l) Jy (x0::x1::x2::x3::x4::x5::x6::x7::x8::x9::Db::l):=(.s (.s (.s (.s (.s (.s (.s (.s (.s (.s (.s .z)))))))))))
theorem r12{α:Type}{x0 x1 x2 x3 x4 x5 x6 x7 x8 x9 Db Jy Ue:α}{l:List α}:xG (x0::x1::x2::x3::x4::x5::x6::x7::x8::x9::Db::Jy::Ue::l) Ue (x0::x1::x2::x3::x4::x5::x6::x7::x8::x9::Db::Jy::l):=(.s (.s (.s (.s (.s (.s (.s (.s (.s (.s (.s (.s .z))))))))))))
theorem r13{α:Type}{x0 x1 x2 x3 x4 x5 x6 x7 x8 x9 Db Jy Ue JP:α}{l:List α}:xG (x0::x1::x2::x3::x4::x5::x6::x7::x8::x9::Db::Jy::Ue::JP::l) JP (x0::x1::x2::x3::x4::x5::x6::x7::x8::x9::Db::Jy::Ue::l):=(.s (.s (.s (.s (.s (.s (.s (.s (.s (.s (.s (.s (.s .z)))))))))))))
theorem r14{α:Type}{x0 x1 x2 x3 x4 x5 x6 x7 x8 x9 Db Jy Ue JP ZG:α}{l:List α}:xG (x0::x1::x2::x3::x4::x5::x6::x7::x8::x9::Db::Jy::Ue::JP::ZG::l) ZG (x0::x1::x2::x3::x4::x5::x6::x7::x8::x9::Db::Jy::Ue::JP::l):=(.s (.s (.s (.s (.s (.s (.s (.s (.s (.s (.s (.s (.s (.s .z))))))))))))))
theorem r15{α:Type}{x0 x1 x2 x3 x4 x5 x6 x7 x8 x9 Db Jy Ue JP ZG x15:α}{l:List α}:xG (x0::x1::x2::x3::x4::x5::x6::x7::x8::x9::Db::Jy::Ue::JP::ZG::x15::l) x15 (x0::x1::x2::x3::x4::x5::x6::x7::x8::x9::Db::Jy::Ue::JP::ZG::l):=(.s (.s (.s (.s (.s (.s (.s (.s (.s (.s (.s (.s (.s (.s (.s .z)))))))))))))))
theorem u0{α:Type}{x0 y:α}{l:List α}:xO (x0::l) (y::l) x0 y:=.z
theorem u1{α:Type}{x0 x1 y:α}{l:List α}:xO (x0::x1::l) (x0::y::l) x1 y:=(.s .z)
theorem u2{α:Type}{x0 x1 x2 y:α}{l:List α}:xO (x0::x1::x2::l) (x0::x1::y::l) x2 y:=(.s (.s .z))
theorem u3{α:Type}{x0 x1 x2 x3 y:α}{l:List α}:xO (x0::x1::x2::x3::l) (x0::x1::x2::y::l) x3 y:=(.s (.s (.s .z)))
theorem u4{α:Type}{x0 x1 x2 x3 x4 y:α}{l:List α}:xO (x0::x1::x2::x3::x4::l) (x0::x1::x2::x3::y::l) x4 y:=(.s (.s (.s (.s .z))))
theorem u5{α:Type}{x0 x1 x2 x3 x4 x5 y:α}{l:List α}:xO (x0::x1::x2::x3::x4::x5::l) (x0::x1::x2::x3::x4::y::l) x5 y:=(.s (.s (.s (.s (.s .z)))))
theorem u6{α:Type}{x0 x1 x2 x3 x4 x5 x6 y:α}{l:List α}:xO (x0::x1::x2::x3::x4::x5::x6::l) (x0::x1::x2::x3::x4::x5::y::l) x6 y:=(.s (.s (.s (.s (.s (.s .z))))))
theorem u7{α:Type}{x0 x1 x2 x3 x4 x5 x6 x7 y:α}{l:List α}:xO (x0::x1::x2::x3::x4::x5::x6::x7::l) (x0::x1::x2::x3::x4::x5::x6::y::l) x7 y:=(.s (.s (.s (.s (.s (.s (.s .z)))))))
theorem u8{α:Type}{x0 x1 x2 x3 x4 x5 x6 x7 x8 y:α}{l:List α}:xO (x0::x1::x2::x3::x4::x5::x6::x7::x8::l) (x0::x1::x2::x3::x4::x5::x6::x7::y::l) x8 y:=(.s (.s (.s (.s (.s (.s (.s (.s .z))))))))
theorem u9{α:Type}{x0 x1 x2 x3 x4 x5 x6 x7 x8 x9 y:α}{l:List α}:xO (x0::x1::x2::x3::x4::x5::x6::x7::x8::x9::l) (x0::x1::x2::x3::x4::x5::x6::x7::x8::y::l) x9 y:=(.s (.s (.s (.s (.s (.s (.s (.s (.s .z)))))))))
inductive Vm:Nat->List Value->List Value->List Value->Prop
 |d {cs:List Value}:Vm 0 cs [] cs
 |r {a v:Value} {cs vs cs':List Value}:Vm 0 cs vs cs'->Vm 0 (a::cs) (v::vs) (v::cs')
 |s {a:Value} {o:Nat} {cs vs cs':List Value}:Vm o cs vs cs'->Vm (o+1) (a::cs) vs (a::cs')
theorem Vm.eq{o:Nat}{cs vs cs':List Value}(h:Vm o cs vs cs'):cs'=cs.take o++vs++cs.drop (o+vs.length)/\o+vs.length<=cs.length:=by
 induction h with
 |d=>simp
 |r _ ih=>obtain⟨h1,h2⟩:=ih;simp only[List.take_zero,Qs,wS]at h1 h2;rw[h1];simp;omega
 |s _ ih=>
  obtain⟨h1,h2⟩:=ih
  rw[h1]
  simp only[List.take_succ_cons,List.cons_append,Hd]
  refine⟨?_,by omega⟩
  rw[Nat.add_right_comm,List.drop_succ_cons]
end Go.E
end
