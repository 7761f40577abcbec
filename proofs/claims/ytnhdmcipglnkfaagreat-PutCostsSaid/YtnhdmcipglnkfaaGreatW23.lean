/- Parts of a proof: Sa2, Sa3, Rs, Q0. -/
import Derived.Test.YtnhdmcipglnkfaaGreatW22
set_option linter.unusedVariables false
set_option linter.unusedSimpArgs false
set_option maxRecDepth 100000
set_option maxHeartbeats 4000000
section
namespace Go.Ct
variable{β:Type}{g:Ga}[Qc β]
theorem q0{r:Result}(h:r.aF={}):Qc.q g r:=.inl (by rw[h];exact Int.le_refl 0)
theorem uX{g g':Ga}(h:Ge g g'):g.gen<=g'.gen:=h.gen
theorem IX{t:aX}(eR:t.readOnly=false):∀(n:Nat) (g:Ga),GW g->Tk g t->Sm (Zi t n) (yI t n) g
 |0,g,hw,ht=>.ret _ g (q0 rfl)
 |n+1,g,hw,ht=>Gz hw ht λg1 h1 iY r hr=>oV iY (ht.ge h1) hr λg2 h2 tU m hm=>.alloc (0,0) (Hl (by decide) (by decide)) ⟨(λh=>by cases h),(λ_=>.inl rfl),λh=>by cases h⟩ λh3 YZ=>
  .gen λh4 TV=>.alloc (0,0) (nU (by omega) (by show _<=((_+1:Nat):Int);omega) (by decide)) ⟨λ_=>(fW tU rfl).ge h4,(λh=>by cases h),λh=>by cases h⟩ λh5 hw5=>by
   have hg:=h3.trans (h4.trans h5)
   refine Ow hw5 (ht.ge (h1.trans (h2.trans hg))) eR (hr.ge (h2.trans hg)) (hm.m.ge hg) (mX TV rfl) λg6 h6 hw6 ok=>?_
   cases ok with
   |true=>exact .ret _ _ (q0 rfl)
   |false=>exact IX eR n g6 hw6 (ht.ge (h1.trans (h2.trans (hg.trans h6))))
theorem Jq{m:Int}(hw:GW g)(hm:mZ g m (0,0)):Sm (wJ m) (Au m) g:=
 .gen λh1 iY=>.alloc (0,0) (nU (by omega) (by show _<=((_+1:Nat):Int);omega) (by decide)) ⟨λ_=>hm.ge h1,(λh=>by cases h),λh=>by cases h⟩ λh2 tU=>.cell .root (.inl rfl) (mX iY rfl) λh3 YZ=>.ret _ _ (.inr (IB _ _ _))
theorem Xr{r:Int}(hw:GW g)(hr:fH g r (0,0)):Sm (Eu r) (Nu r) g:=.cell .fixed (.inr rfl) hr λh3 YZ=>.ret _ _ (.inr (IB _ _ _))
theorem Jg{t:aX}(eR:t.readOnly=false)(fz:Bool):∀(n:Nat) (g:Ga),GW g->Tk g t->Sm (Ey t (λr m=>bif fz then Eu r else wJ m) n) (II t fz n) g
 |0,g,hw,ht=>.ret _ g (q0 rfl)
 |n+1,g,hw,ht=>Gz hw ht λg1 h1 iY r hr=>oV iY (ht.ge h1) hr λg2 h2 tU m hm=>
  .gen λh4 TV=>.alloc (0,0) (nU (by omega) (by show _<=((_+1:Nat):Int);omega) (by decide)) ⟨λ_=>hm.m.ge h4,(λh=>by cases h),λh=>by cases h⟩ λh5 hw5=>by
   have hg:=h4.trans h5
   refine Ow hw5 (ht.ge (h1.trans (h2.trans hg))) eR (hr.ge (h2.trans hg)) (hm.m.ge hg) (mX TV rfl) λg6 h6 hw6 ok=>?_
   cases ok with
   |true=>
    cases fz with
    |true=>exact Xr hw6 (hr.ge (h2.trans (hg.trans h6)))
    |false=>exact Jq hw6 (hm.ge (hg.trans h6))
   |false=>exact Jg eR fz n g6 hw6 (ht.ge (h1.trans (h2.trans (hg.trans h6))))
theorem HN{c:Call}(n:Nat)(hw:GW g)(ht:Tk g c.aF):Sm (sZ c.aF n) (kK c.aF false n) g:=by
 unfold sZ kK
 cases eR:c.aF.readOnly with
 |true=>exact .load .fixed (ht.fixed eR) λg1 h1 iY r hr=>oV iY (ht.ge h1) hr λg2 h2 tU m hm=>Jq tU hm
 |false=>exact Jg eR false n g hw ht
theorem XM{c:Call}(n:Nat)(hw:GW g)(ht:Tk g c.aF):Sm (Ag c.aF n) (kK c.aF true n) g:=by
 unfold Ag kK
 cases eR:c.aF.readOnly with
 |true=>exact .load .fixed (ht.fixed eR) λg1 h1 iY r hr=>Xr iY hr
 |false=>exact Jg eR true n g hw ht
abbrev Kj(g:Ga)(b:eC)(k k':Int->I β):Prop:=∀g',Ge g g'->GW g'->∀r,(r=0\/fH g' r b)->Sm (k r) (k' r) g'
theorem ES{n:Node}{i:Int}(h:(aB n i).2=true):0<=i/\i<64:=by
 have hh:=(AB h).2
 unfold Bm.has at hh;simp at hh;omega
theorem lX{n:Node}{i:Int}(h:(aB n i).2=true):n.kind=3:=(H3 (AB h).1).1
theorem H6{t:aX}{k k':Int->I β}{i c ix:Int}{b:eC}(hw:GW g)(ht:Tk g t)(hi:fH g i b)(hc:rU g c b)(hl:(aB (g.node c) ix).2=true)(hb:fH g (aB (g.node c) ix).1 (eA b ix))(hk:Kj g (eA b ix) k k'):Sm (oE t i c ix k) ((Rj t i c ix).bind k') g:=by
 have P8:=lX hl
 have hn:=hw.ofM hc.m
 refine .nl hc.bX (.nr hc.bX (Sm.ff (by rw[hl];rfl) (Sm.as9 (oV hw ht hb λg1 h1 iY m hm=>?_))))
 have Jx:=hi.ge h1
 have hc1:=hc.ge h1
 have wF:=(iY.RJ Jx).i Jx.1
 have hv:=(iY.RJ Jx).valid
 have h1g:1<=(g1.node i).gen:=(iW hv).gen Jx.1
 refine .nl Jx.bX (.nr Jx.bX (.alloc (eA b ix) (nU h1g wF.1 (by have:=(hn.c P8).1;show b.1+1<=11;omega)) ⟨λ_=>hm,(λh=>by cases h),λh=>by cases h⟩ λh2 tU=>?_))
 have hI:=mX iY (n:={kind:=2,gen:=(g1.node i).gen}) (i:=m) (b:=eA b ix) rfl
 have Nv:=hc1.ge h2
 have e2:(g1.alloc {kind:=2,gen:=(g1.node i).gen} m (eA b ix)).node c=g.node c:=(h1.trans h2).node hc.bX
 obtain⟨u1,u2,u3⟩:=qE (tU.ofM Nv.m) (by rw[e2];exact P8) (by rw[e2];exact hl) (.inl hI)
 refine .nl Nv.bX (Sm.ff (by rw[u2];rfl) ?_)
 unfold rK
 refine .nr Nv.bX (.alloc b u1 (lP u3 (.inr Nv)) λh3 YZ=>?_)
 have hg:=h1.trans (h2.trans h3)
 refine Sm.as9 (u:=pD t i c _) (Mv YZ (ht.ge hg) (hi.ge hg) (fW tU u3) λg4 h4 TV ok=>?_)
 cases ok with
 |true=>exact hk g4 (hg.trans h4) TV _ (.inr (hI.ge (h3.trans h4)))
 |false=>exact hk g4 (hg.trans h4) TV 0 (.inl rfl)
theorem Oh{t:aX}{k k':Bool->I β}{i c:Int}{h:Nat}{l:Int}{b:eC}(hw:GW g)(ht:Tk g t)(hi:fH g i b)(hl:l=(b.1:Int))(hc:fH g c (eA b (slice h l))\/∀g',Ge g g'->GW g'->∀m,mZ g' m b->(aB (g'.node m) (slice h l)).1≠c\/(aB (g'.node m) (slice h l)).2=false)(hk:Kb g k k'):Sm (mP t i c h l k) ((Dk t i c h l).bind k') g:=by
 refine Sm.as9 (oV hw ht hi λg1 h1 iY m hm=>?_)
 refine .nl hm.bX (.nr hm.bX ?_)
 dsimp only
 cases YF:(aB (g1.node m) (slice h l)).2 with
 |false=>exact hk g1 h1 iY false
 |true=>
  cases YH:(aB (g1.node m) (slice h l)).1 != c with
  |true=>exact hk g1 h1 iY false
  |false=>
   have e1:(aB (g1.node m) (slice h l)).1=c:=by simpa using YH
   rcases hc with hc|hc
   ·refine Sm.as9 (oV iY (ht.ge h1) (hc.ge h1) λg2 h2 tU q hq=>?_)
    refine .nl hq.bX (.nr hq.bX ?_)
    dsimp only
    cases hu:(aP (g2.node q)).2 with
    |false=>exact hk g2 (h1.trans h2) tU false
    |true=>
     obtain⟨u1,u2,u3⟩:=Kx (tU.ofM hq.m) hu
     have DF:=hm.ge h2
     have ek:(g2.node m).kind=3:=by rw[h2.node hm.bX];exact lX YF
     refine .nl DF.bX (.alloc (eA b (slice h l)) u1 (vJ (.inl u2)) λh3 YZ=>?_)
     have hS:=Af (g:=g2) (b:=eA b (slice h l)) (b':=eA b (slice h l)) (i:=0) u2 u3
     have hm3:=DF.ge h3
     refine .nr hm3.bX ?_
     rw[h3.node DF.bX]
     obtain⟨p1,p2,p3⟩:=qE ((tU.ofM DF.m).ge h3) ek (by rw[h2.node hm.bX];exact YF) (.inr hS)
     obtain⟨q1,q2⟩:=qY (i:=slice h l) p1 (by
      have:=nS (n:=g2.node m) (i:=slice h l) (r:=g2.nodes.length+3) (by obtain⟨L,hL⟩:=(tU.ofM DF.m).fit;exact hL.bm) (by rw[h2.node hm.bX];exact YF) (by omega)
      rw[this]) (s:=(aP (g2.node q)).1) (λ_=>⟨u1.hash,u1.key,u3⟩) hl
     refine Sm.ff (by rw[p2];rfl) (.alloc b q1 (lP q2 (.inr hm3)) λh4 TV=>?_)
     have hg:=h1.trans (h2.trans (h3.trans h4))
     exact Mv TV (ht.ge hg) (hi.ge hg) (fW YZ q2) (hk.ge hg)
   ·rcases hc g1 h1 iY m hm with hc|hc
    ·exact absurd e1 hc
    ·rw[YF]at hc;cases hc
theorem JL{l:List bA}{key:ByteArray}(h:(bN l key).2=false):(bN l key).1=0:=by
 unfold bN at h ⊢
 split
 ·rename_i q;rw[if_pos q]at h;cases h
 ·rfl
theorem RE{key:ByteArray}{x:Node}{u v:I Result}(hu:u=bif bO x.key key then .ret (dN true x.value)else .ret (dN false 0)):Sm (Yl key x) u g:=by
 subst hu
 unfold Yl
 cases bO x.key key with
 |true=>exact .ret _ g (q0 rfl)
 |false=>exact .ret _ g (q0 rfl)
theorem SQ{t:aX}{key:ByteArray}{h:Nat}:∀(n:Nat) (i level:Int) (b:eC) (g:Ga),GW g->Tk g t->fH g i b->Sm (Xe t key h n i level) (FT t key h n i level) g
 |0,i,level,b,g,hw,ht,hi=>.ret _ g (q0 rfl)
 |n+1,i,level,b,g,hw,ht,hi=>oV hw ht hi λg1 h1 iY r hr=>by
  refine .nl hr.bX (.nr hr.bX ?_)
  have hn:=iY.ofM hr.m
  rcases nW hr.m with hk|hk|hk
  ·refine Sm.tt (by rw[hk];rfl) ?_
   rw[show ((g1.node r).kind==5)=false by rw[hk];rfl,show ((g1.node r).kind==6)=false by rw[hk];rfl]
   cases hl:(aB (g1.node r) (slice h level)).2 with
   |false=>exact .ret _ g1 (q0 rfl)
   |true=>
    have hb:=(hn.c hk).2.2 _ hl
    rcases hb with hb|hb
    ·refine .nl hb.bX (.nr hb.bX ?_)
     rw[show ((g1.node (aB (g1.node r) (slice h level)).1).kind==4)=false by rw[hb.1];rfl]
     exact SQ n _ _ _ g1 iY (ht.ge h1) hb
    ·refine .nl hb.bX (.nr hb.bX ?_)
     rw[show ((g1.node (aB (g1.node r) (slice h level)).1).kind==4)=true by rw[hb.1];rfl]
     exact RE (v:=.ret {}) rfl
  ·refine Sm.ff (by rw[hk];rfl) (Sm.tt (by rw[hk];rfl) ?_)
   rw[show ((g1.node r).kind==5)=true by rw[hk];rfl]
   exact RE (v:=.ret {}) rfl
  ·refine Sm.ff (by rw[hk];rfl) (Sm.ff (by rw[hk];rfl) (Sm.tt (by rw[hk];rfl) ?_))
   rw[show ((g1.node r).kind==5)=false by rw[hk];rfl,show ((g1.node r).kind==6)=true by rw[hk];rfl]
   cases hp:(bN (g1.node r).aH key).2 with
   |true=>exact .ret _ g1 (q0 rfl)
   |false=>rw[JL hp];exact .ret _ g1 (q0 rfl)
theorem aAb{c:Call}(n:Nat)(hw:GW g)(ht:Tk g c.aF):Sm (uD c.aF λr=>Xe c.aF c.key (aE c.key c.aI) n r 0) (Bf c n) g:=
 Gz hw ht λg1 h1 iY r hr=>SQ n r 0 _ g1 iY (ht.ge h1) hr
end Go.Ct
end
section
namespace Go.Ct
variable{β:Type}{g:Ga}
theorem Aw{h j:Nat}(hj:j<=10):slice h j=((h/64^j%64:Nat):Int):=by
 unfold slice;rw[if_neg (by omega),Qa]
theorem Jr(h k:Nat):∀n l j,l<=j->j<lV h k n l->slice h j=slice k j
 |0,l,j,h1,h2=>by unfold lV at h2;omega
 |n+1,l,j,h1,h2=>by
  unfold lV at h2
  split at h2
  ·rename_i e
   by_cases hj:j=l
   ·subst hj;first|exact e|exact(by simpa using e)
   ·exact Jr h k n (l+1) j (by omega) h2
  ·omega
theorem Ol{a b:Nat}:∀c:Nat,c<=11->(∀j:Nat,j<c->slice a j=slice b j)->a%64^c=b%64^c
 |0,_,_=>by simp[Nat.mod_one]
 |c+1,hc,h=>by
  have e:=h c (by omega)
  rw[Aw (by omega),Aw (by omega)]at e
  have e:a/64^c%64=b/64^c%64:=by omega
  rw[Nat.pow_succ,Nat.mod_mul,Nat.mod_mul,e,Ol c (by omega) λj hj=>h j (by omega)]
theorem PN{a b c:Nat}(h:a%64^c=b%64^c)(hc:c<=11):∀j:Nat,j<c->slice a j=slice b j:=λj hj=>by
 rw[Aw (by omega),Aw (by omega)]
 have e:a%64^(j+1)=b%64^(j+1):=by
  rw[<- Nat.mod_mod_of_dvd a (Nat.pow_dvd_pow 64 (show j+1<=c by omega)),<- Nat.mod_mod_of_dvd b (Nat.pow_dvd_pow 64 (show j+1<=c by omega)),h]
 rw[Nat.pow_succ]at e
 rw[<- Nat.mod_mul_right_div_self,<- Nat.mod_mul_right_div_self,e]
theorem Ya{a b c:Nat}(h:a%64^c=b%64^c)(hc:c<=11):c<=aJ a b:=by
 obtain⟨h1,h2⟩:=nD a b 11 0
 unfold aJ
 rcases Gg (lV a b 11 0) c with h3|h3
 ·exact absurd (PN h hc _ h3) (h2 (by omega))
 ·exact h3
def Zm(h:Nat)(gen:Int):Nat->Int->(Int->I β)->Int->I β
 |0,_,k,m=>k m
 |j+1,lv,k,m=>.alloc {kind:=2,gen:=gen} m λi=>.alloc (aO {kind:=3} (slice h lv) i).1 0 λm'=>Zm h gen j (lv-1) k m'
def J5(x:Node)(at_:Int)(h:Nat)(key:ByteArray)(v:Nat)(c:Nat)(k:Int->I β):I β:=
 if 11<=c then .alloc {kind:=6,hash:=h,aH:=gE ⟨x.key,x.value⟩ ⟨key,v⟩} 0 k
 else .alloc {kind:=4,hash:=h,key:=key,value:=v} 0 λs=>.alloc (aO (aO {kind:=3} (slice x.hash c) at_).1 (slice h c) s).1 0 k
theorem Xx(h:Nat)(gen:Int)(k:Int->I β):∀(j:Nat) (lv m:Int),Zm h gen (j+1) lv k m=Zm h gen j lv (λm=>.alloc {kind:=2,gen:=gen} m λi=>.alloc (aO {kind:=3} (slice h (lv-j)) i).1 0 k) m
 |0,lv,m=>by simp[Zm]
 |j+1,lv,m=>by
  rw[Zm,Zm]
  congr 1;funext i;congr 1;funext m'
  rw[Xx h gen k j (lv-1) m']
  rw[show lv-1-(j:Int)=lv-((j+1:Nat):Int) by omega]
theorem GZ(x:Node)(at_:Int)(h:Nat)(key:ByteArray)(v:Nat)(gen:Int):∀(n:Nat) (k:Int->I β),n<=11->11-n<=aJ x.hash h->
  pK x at_ h key v gen n k=J5 x at_ h key v (aJ x.hash h) λm=>Zm h gen (aJ x.hash h-(11-n)) ((aJ x.hash h:Int)-1) k m
 |0,k,hn,hc=>by
  have h1:=(nD x.hash h 11 0).1
  have h2:aJ x.hash h=11:=by unfold aJ at *;omega
  rw[h2];rfl
 |n+1,k,hn,hc=>by
  have h1:=(nD x.hash h 11 0).1
  have h2:=(nD x.hash h 11 0).2
  have h3:=Jr x.hash h 11 0
  have Yz:aJ x.hash h=lV x.hash h 11 0:=rfl
  have eL:(11:Int)-((n+1:Nat):Int)=((11-(n+1):Nat):Int):=by omega
  rw[pK,eL]
  by_cases hs:slice h ((11-(n+1):Nat):Int)=slice x.hash ((11-(n+1):Nat):Int)
  ·rw[show (slice h ((11-(n+1):Nat):Int) != slice x.hash ((11-(n+1):Nat):Int))=false by rw[hs];exact bne_self_eq_false _]
   have hlt:11-n<=aJ x.hash h:=by
    rcases Gg (aJ x.hash h) (11-n)with q|q
    ·have e:aJ x.hash h=11-(n+1):=by omega
     have:=h2 (by omega)
     rw[<- Yz,e]at this
     exact absurd hs.symm this
    ·exact q
   show pK x at_ h key v gen n _=_
   rw[GZ x at_ h key v gen n _ (by omega) hlt]
   congr 1;funext m
   rw[show aJ x.hash h-(11-(n+1))=(aJ x.hash h-(11-n))+1 by omega,Xx]
   congr 1;funext m
   rw[show (aJ x.hash h:Int)-1-((aJ x.hash h-(11-n):Nat):Int)=((11-(n+1):Nat):Int) by omega]
  ·rw[show (slice h ((11-(n+1):Nat):Int) != slice x.hash ((11-(n+1):Nat):Int))=true from bne_iff_ne.2 hs]
   have e:aJ x.hash h=11-(n+1):=by
    rcases Gg (11-(n+1)) (aJ x.hash h)with q|q
    ·exact absurd (h3 _ (bZ _) q).symm hs
    ·omega
   rw[e,Nat.sub_self]
   unfold J5
   rw[if_neg (by omega)]
   rfl
def Ux(h:Nat)(gen:Int):Nat->Int->Int->List (Node×Int)
 |0,_,_=>[]
 |j+1,lv,t=>({kind:=2,gen:=gen},t)::({kind:=3,aC:=Bm.cR 0 (slice h lv),aA:=[t+1]},0)::Ux h gen j (lv-1) (t+2)
theorem Dh(h:Nat)(gen f:Int):∀(j:Nat) (k:Int) (l:List (Node×Int)),gI h gen f k j l=l++Ux h gen j (k-1) (f+l.length-1)
 |0,k,l=>by simp[gI,Ux]
 |j+1,k,l=>by
  rw[gI,Dh h gen f j (k-1),Ux,zA]
  congr 1
  rw[cV,List.cons_append,List.cons_append,Qs,show f+(((l.length+[(({kind:=2,gen:=gen}:Node),f+(l.length:Int)-1),({kind:=3,aC:=Bm.cR 0 (slice h (k-1)),aA:=[f+(l.length:Int)-1+1]},0)].length:Nat):Int))-1=f+l.length-1+2 by simp;omega]
theorem NL(x:Node)(at_:Int)(h:Nat)(key:ByteArray)(v lv:Nat)(gen:Int):rM x at_ h key v lv gen=
  if 11<=aJ x.hash h then .alloc {kind:=6,hash:=h,aH:=gE ⟨x.key,x.value⟩ ⟨key,v⟩} 0 λf=>iX (Ux h gen (11-lv) 10 f) f
  else .alloc {kind:=4,hash:=h,key:=key,value:=v} 0 λf=>.alloc (iA (slice x.hash (aJ x.hash h)) at_ (slice h (aJ x.hash h)) f) 0 λr=>iX (Ux h gen (aJ x.hash h-lv) ((aJ x.hash h:Int)-1) (f+1)) r:=by
 have hd:∀f,bU x at_ h key v lv gen f=if 11<=aJ x.hash h then({kind:=6,hash:=h,aH:=gE ⟨x.key,x.value⟩ ⟨key,v⟩},0)::Ux h gen (11-lv) 10 f
   else({kind:=4,hash:=h,key:=key,value:=v},0)::(iA (slice x.hash (aJ x.hash h)) at_ (slice h (aJ x.hash h)) f,0)::Ux h gen (aJ x.hash h-lv) ((aJ x.hash h:Int)-1) (f+1):=λf=>by
  unfold bU
  dsimp only
  split
  ·rw[Dh,List.singleton_append,show ((11:Int)-(lv:Int)).toNat=11-lv by omega]
   congr 2
   show f+((1:Nat):Int)-1=f;omega
  ·rw[Dh,List.cons_append,List.cons_append,Qs,show ((aJ x.hash h:Int)-(lv:Int)).toNat=aJ x.hash h-lv by omega]
   congr 3
   show f+((2:Nat):Int)-1=f+1;omega
 by_cases hc:11<=aJ x.hash h
 ·have e0:=hd 0
  rw[if_pos hc]at e0
  unfold rM
  rw[e0,if_pos hc]
  show I.alloc _ _ _=I.alloc _ _ _
  congr 1;funext f
  rw[hd f,if_pos hc];rfl
 ·have e0:=hd 0
  rw[if_neg hc]at e0
  unfold rM
  rw[e0,if_neg hc]
  show I.alloc _ _ _=I.alloc _ _ _
  congr 1;funext f
  rw[hd f,if_neg hc];rfl
theorem V5(i:Int):Bm.has 0 i=false:=by unfold Bm.has;simp
theorem F5(i:Int):aB {kind:=3} i=(0,false):=Jj (V5 i)
theorem Ez{i r:Int}(h0:0<=i)(h1:i<64)(hr:1<=r):aO {kind:=3} i r=({kind:=3,aC:=Bm.cR 0 i,aA:=[r]},true):=by
 unfold aO
 rw[if_neg (by rw[show Node.oT {kind:=3}=true by decide+kernel];simp[V5];omega)]
 simp
theorem ok_one{b:eC}{i r:Int}(hb:b.1<=10)(TX:b.2<64^b.1)(h0:0<=i)(h1:i<64)(hr:fH g r (eA b i)\/Ij g r (eA b i)):bT g (aO {kind:=3} i r).1 b:=
 (zL (Hl hb TX) rfl (by rw[F5]) h0 h1 hr).1
variable[Qc β]
theorem dC(g:Ga)(n:Node)(i:Int)(b:eC):(g.alloc n i b).nodes.length=g.nodes.length+1:=by rw[jP,cV];rfl
abbrev Km(g:Ga)(b:eC)(k:Int->I β)(k':Int->I β):Prop:=∀g',Ge g g'->GW g'->∀r,mZ g' r b->Sm (k r) (k' r) g'
theorem Km.ge{b:eC}{k k':Int->I β}{g':Ga}(h:Km g b k k')(hg:Ge g g'):Km g' b k k':=λg2 h2 hw r hr=>h g2 (hg.trans h2) hw r hr
theorem PD{k k':Int->I β}{h:Nat}{gen:Int}(Mm:1<=gen):∀(j q:Nat) (g:Ga) (m:Int),GW g->j<=q->q<=11->gen<=g.gen->m=g.nodes.length+2->mZ g m (q,h%64^q)->Km g (q-j,h%64^(q-j)) k k'->
  Sm (Zm h gen j ((q:Int)-1) k m) ((iX (Ux h gen j ((q:Int)-1) m) m).bind k') g
 |0,q,g,m,hw,hj,hq,hg,hm,hM,hk=>hk g (Ge.refl hw) hw m hM
 |j+1,0,g,m,hw,hj,hq,hg,hm,hM,hk=>absurd hj (by omega)
 |j+1,q+1,g,m,hw,hj,hq,hg,hm,hM,hk=>by
  have el:((q+1:Nat):Int)-1=(q:Int):=by omega
  rw[el]
  have es:=Gi h q
  have ed:=dP (h:=h) (l:=q) (by omega)
  refine .alloc (q+1,h%64^(q+1)) (nU Mm hg hq) ⟨λ_=>hM,(λh=>by cases h),λh=>by cases h⟩ λh1 iY=>?_
  have hI:=mX hw (n:={kind:=2,gen:=gen}) (i:=m) (b:=(q+1,h%64^(q+1))) rfl
  have hlen:(g.alloc {kind:=2,gen:=gen} m (q+1,h%64^(q+1))).nodes.length=g.nodes.length+1:=by rw[jP,cV];rfl
  have hC:bT (g.alloc {kind:=2,gen:=gen} m (q+1,h%64^(q+1))) (aO {kind:=3} (slice h q) (g.nodes.length+3)).1 (q,h%64^q):=
   ok_one (by show q<=10;omega) (Nat.mod_lt _ (Nat.pow_pos (by decide))) es.1 es.2 (.inl (by rw[ed];exact hI))
  have ep:=Ez (i:=slice h q) (r:=g.nodes.length+3) es.1 es.2 (by omega)
  rw[ep]at hC
  have et:m+1=(g.nodes.length:Int)+3:=by omega
  show Sm (.alloc (aO {kind:=3} (slice h q) (g.nodes.length+3)).1 0 _) (.alloc {kind:=3,aC:=Bm.cR 0 (slice h q),aA:=[m+1]} 0 _) _
  rw[ep,et]
  refine .alloc (q,h%64^q) hC (lP rfl (.inl rfl)) λh2 tU=>?_
  have YY:=fW iY (n:={kind:=3,aC:=Bm.cR 0 (slice h q),aA:=[(g.nodes.length:Int)+3]}) (i:=0) (b:=(q,h%64^q)) rfl
  have e2:m+2=((g.alloc {kind:=2,gen:=gen} m (q+1,h%64^(q+1))).nodes.length:Int)+3:=by rw[hlen];omega
  rw[e2]
  refine PD Mm j q _ _ tU (by omega) (by omega) (by have:=(h1.trans h2).gen;omega) (by simp only[dC];omega) YY ?_
  rw[show q+1-(j+1)=q-j by omega]at hk
  exact hk.ge (h1.trans h2)
theorem DT{i a k b:Int}(h0:0<=i)(h1:i<64)(k0:0<=k)(k1:k<64)(xL:i≠k)(ha:1<=a)(hb:1<=b):(aO (aO {kind:=3} i a).1 k b).1=iA i a k b/\(aB (aO {kind:=3} i a).1 k).2=false:=by
 rw[Ez h0 h1 ha]
 have hv:Node.valid {kind:=3,aC:=Bm.cR 0 i,aA:=[a]}=true:=(QQ 0 i a h0 h1 ha).1.2.2.2.2.2.2 (.inl rfl)
 have hC:Node.oT {kind:=3,aC:=Bm.cR 0 i,aA:=[a]}=true:=by unfold Node.oT;rw[hv];rfl
 have hh:=EX h0 h1 k0 k1 xL
 refine⟨?_,by rw[Jj hh]⟩
 unfold aO iA
 rw[if_neg (by rw[hC];simp[hh];omega)]
 obtain⟨i,rfl⟩:=vL h0
 obtain⟨k,rfl⟩:=vL k0
 have hp:Bm.aN (Bm.cR 0 (i:Int)) (k:Int)=if i<k then 1 else 0:=by
  rw[Ns (by omega)]
  have hbit:∀j,(Bm.cR 0 (i:Int)).testBit j=decide (i=j):=λj=>by
   rw[Bm.iN _ i (by omega)];by_cases e:i=j<;>simp[e]
  have hz:∀m,m<=i->Bm.pop m (Bm.cR 0 (i:Int))=0:=λm=>by
   induction m with
   |zero=>intro _;simp[Bm.pop]
   |succ m ih=>intro hm;rw[Bm.cQ,ih (by omega),hbit];simp[show i≠m by omega]
  have ho:∀m,i<m->Bm.pop m (Bm.cR 0 (i:Int))=1:=λm=>by
   induction m with
   |zero=>intro h;omega
   |succ m ih=>
    intro hm
    rw[Bm.cQ,hbit]
    by_cases e:i=m
    ·subst e;rw[hz i (aW _)];simp
    ·rw[ih (by omega)];simp[e]
  split
  ·exact ho k (by assumption)
  ·exact hz k (by omega)
 rw[hp]
 by_cases e:i<k
 ·rw[if_pos e,if_neg (by omega)];simp
 ·rw[if_neg e,if_pos (by omega)];simp
theorem BV{h:Nat}{l:List bA}{b:eC}(hh:h<18446744073709551616)(h0:2<=l.length)(h2:aU l=true)(h3:∀q∈l,q.key.size<=64)(hb:b.1=11/\h%64^b.1=b.2):bT g {kind:=6,hash:=h,aH:=l} b:=by
 have hf:=DK l.length h l hh h0 (by omega) h2 h3
 exact⟨hf.1.2.2.2.2.2.2 (.inr rfl),⟨_,hf⟩,by show (2:Int)<=6;decide,by show (6:Int)<=8;decide,(λh=>by cases h),(λh=>by cases h),(λh=>by cases h),λ_=>hb,(λh=>by cases h),λh=>by cases h⟩
theorem W2{k k':Int->I β}{x:Node}{at_:Int}{h v lv:Nat}{key:ByteArray}{gen:Int}(hw:GW g)(hx:x=g.node at_)(hs:Ij g at_ (lv,h%64^lv))(L6:lv<=11)(hh:h<18446744073709551616)(kP:key.size<=64)(xL:bO x.key key=false)(Mm:1<=gen)(hg:gen<=g.gen)
  (hk:Km g (lv,h%64^lv) k k'):Sm (pK x at_ h key v gen (11-lv) k) ((rM x at_ h key v lv gen).bind k') g:=by
 have hxh:x.hash%64^lv=h%64^lv:=by rw[hx];exact hs.2
 have hcg:=Ya hxh L6
 have hcl:=(nD x.hash h 11 0).1
 have hcn:=(nD x.hash h 11 0).2
 have hce:aJ x.hash h=lV x.hash h 11 0:=rfl
 have hkx:x.key.size<=64:=by rw[hx];exact(hw.ofS hs).key
 rw[GZ x at_ h key v gen (11-lv) k (by omega) (by omega),NL,show 11-(11-lv)=lv by omega]
 unfold J5
 by_cases hc:11<=aJ x.hash h
 ·have e11:aJ x.hash h=11:=by omega
  rw[if_pos hc,if_pos hc,e11]
  have hlen:(gE ⟨x.key,x.value⟩ ⟨key,v⟩).length=2:=by unfold gE;split<;>rfl
  refine .alloc (11,h%64^11) (BV hh (by omega) (yM _ _ xL) (λq hq=>?_) ⟨rfl,rfl⟩) (lP rfl (.inl rfl)) λh1 iY=>?_
  ·unfold gE at hq
   split at hq<;>simp at hq<;>rcases hq with rfl|rfl<;>assumption
  ·refine PD Mm (11-lv) 11 _ _ iY (by omega) (by omega) (by have:=h1.gen;omega) (by simp only[dC];omega) (fW hw rfl) ?_
   rw[show 11-(11-lv)=lv by omega]
   exact hk.ge h1
 ·rw[if_neg hc,if_neg hc]
  generalize hC:aJ x.hash h=c at *
  have aSa:slice x.hash c≠slice h c:=by rw[hce];exact hcn (by omega)
  have hagree:x.hash%64^c=h%64^c:=Ol c (by omega) λj hj=>Jr x.hash h 11 0 j (bZ _) (by rw[<- hce];exact hj)
  have s1:=Gi x.hash c
  have s2:=Gi h c
  refine .alloc (0,0) (Jh (.inl rfl) hh kP (λh=>by cases h)) (vJ (.inl rfl)) λh1 iY=>?_
  have hS:=Af (g:=g) (n:={kind:=4,hash:=h,key:=key,value:=v}) (i:=0) (b:=(c+1,h%64^(c+1))) (b':=(0,0)) rfl rfl
  have KU:Ij (g.alloc {kind:=4,hash:=h,key:=key,value:=v} 0 (0,0)) at_ (eA (c,h%64^c) (slice x.hash c)):=by
   have hs1:=hs.ge h1
   refine⟨hs1.1,?_⟩
   rw[<- hagree,dP (by omega)]
   rw[h1.node hs.bX,<- hx]
  obtain⟨p1,p2⟩:=DT (b:=(g.nodes.length:Int)+3) s1.1 s1.2 s2.1 s2.2 aSa hs.one (by omega)
  have o1:bT (g.alloc {kind:=4,hash:=h,key:=key,value:=v} 0 (0,0)) (aO {kind:=3} (slice x.hash c) at_).1 (c,h%64^c):=ok_one (by show c<=10;omega) (Nat.mod_lt _ (Nat.pow_pos (by decide))) s1.1 s1.2 (.inr KU)
  obtain⟨o2,_,o3⟩:=zL (i:=slice h c) (r:=(g.nodes.length:Int)+3) o1 (by rw[Ez s1.1 s1.2 hs.one]) p2 s2.1 s2.2 (.inr (by rw[dP (by omega)];exact hS))
  show Sm (.alloc (aO (aO {kind:=3} (slice x.hash c) at_).1 (slice h c) (g.nodes.length+3)).1 0 _) (.alloc (iA (slice x.hash c) at_ (slice h c) (g.nodes.length+3)) 0 _) _
  rw[p1]at o2 o3 ⊢
  refine .alloc (c,h%64^c) o2 (lP o3 (.inl rfl)) λh2 tU=>?_
  have e:(g.nodes.length:Int)+3+1=((g.alloc {kind:=4,hash:=h,key:=key,value:=v} 0 (0,0)).nodes.length:Int)+3:=by simp only[dC];omega
  show Sm (Zm h gen (c-lv) ((c:Int)-1) k _) ((iX (Ux h gen (c-lv) ((c:Int)-1) ((g.nodes.length:Int)+3+1)) _).bind k') _
  rw[e]
  refine PD Mm (c-lv) c _ _ tU (by omega) (by omega) (by have:=(h1.trans h2).gen;omega) (by simp only[dC];omega) (fW iY o3) ?_
  rw[show c-(c-lv)=lv by omega]
  exact hk.ge (h1.trans h2)
end Go.Ct
end
section
namespace Go.Ct
def X.of(c:Call)(x:X):X:={e:={x.e with call:=c},s:=x.s}
theorem X.of_eq{c:Call}{y:X}(h:y.e.call=c):∃z:X,y=z.of c:=⟨y,by subst h;rfl⟩
variable{x y:X}
theorem Ny{a:Int}{o:Option Int}(h:eK a x=(y,o)):y.e.call=x.e.call:=by
 unfold eK qO vR mB at h;repeat' split at h
 all_goals (cases h;rfl)
theorem VU{a b d:Int}{o:Option Bool}(h:jT a b d x=(y,o)):y.e.call=x.e.call:=by
 unfold jT qO vR mB at h;repeat' split at h
 all_goals (cases h;rfl)
theorem Ku{n:Node}{i:Int}{o:Option Int}(h:dE n i x=(y,o)):y.e.call=x.e.call:=by
 unfold dE at h;repeat' split at h
 all_goals (cases h;rfl)
theorem Oc{i:Int}{o:Option Int}(h:fU i x=(y,o)):y.e.call=x.e.call:=by
 unfold fU at h;repeat' split at h
 all_goals (cases h;rfl)
theorem Yv{o:Option Int}(h:kN x=(y,o)):y.e.call=x.e.call:=by
 unfold kN at h;repeat' split at h
 all_goals (cases h;rfl)
theorem vU{α β:Type}{r:X×Option α}{f:α->X->X×Option β}{o:Option β}(hr:∀z o,r=(z,o)->z.e.call=x.e.call)(hf:∀v z o,f v z=(y,o)->y.e.call=z.e.call)(h:kS r f=(y,o)):y.e.call=x.e.call:=by
 obtain⟨z,p⟩:=r
 cases p with
 |none=>cases h;exact hr _ _ rfl
 |some v=>exact(hf v z o h).trans (hr _ _ rfl)
theorem oM{α:Type}:∀{t:I α} {x y:X} {o:Option α},bC t x=(y,o)->y.e.call=x.e.call
 |.ret a,x,y,o,h=>by unfold bC at h;split at h<;>(cases h;rfl)
 |.load c k,x,y,o,h=>vU (λ_ _=>Ny) (λv z o h=>oM h) h
 |.cH c a n k,x,y,o,h=>vU (λ_ _=>VU) (λv z o h=>oM h) h
 |.alloc n i k,x,y,o,h=>vU (λ_ _=>Ku) (λv z o h=>oM h) h
 |.cell i k,x,y,o,h=>vU (λ_ _=>Oc) (λv z o h=>oM h) h
 |.gen k,x,y,o,h=>vU (λ_ _=>Yv) (λv z o h=>oM h) h
 |.node r k,x,y,o,h=>by unfold bC at h;exact oM h
variable{c:Call}
theorem keL{a v:Int}(q:eK a (x.of c)=out y v):∃z,y=X.of c z:=X.of_eq (Ny q)
theorem IQ{n:Node}{i v:Int}(q:dE n i (x.of c)=out y v):∃z,y=X.of c z:=X.of_eq (Ku q)
theorem keE{i v:Int}(q:fU i (x.of c)=out y v):∃z,y=X.of c z:=X.of_eq (Oc q)
theorem keG{v:Int}(q:kN (x.of c)=out y v):∃z,y=X.of c z:=X.of_eq (Yv q)
theorem uG{α:Type}{t:I α}{v:α}(q:bC t (x.of c)=out y v):∃z,y=X.of c z:=X.of_eq (oM q)
end Go.Ct
end
section
namespace Go.Ct
variable{x y:X}
theorem Vy{a:Int}{o:Option Int}(h:eK a x=(y,o)):x.s.aG.length<=y.s.aG.length:=by
 unfold eK qO vR mB St.load at h;repeat' split at h
 all_goals (cases h;exact aW _)
theorem n7{a b d:Int}{o:Option Bool}(h:jT a b d x=(y,o)):x.s.aG.length<=y.s.aG.length:=by
 unfold jT qO vR mB St.cH at h;repeat' split at h
 all_goals (cases h;exact aW _)
theorem Qr{n:Node}{i:Int}{o:Option Int}(h:dE n i x=(y,o)):x.s.aG.length<=y.s.aG.length:=by
 unfold dE at h;repeat' split at h
 ·cases h;exact aW _
 ·cases h;have:=(St.mM x.s n i).2.2;dsimp only;omega
 ·cases h;exact aW _
theorem Yp{i:Int}{o:Option Int}(h:fU i x=(y,o)):x.s.aG.length<=y.s.aG.length:=by
 unfold fU St.aT at h;repeat' split at h
 all_goals (cases h;exact aW _)
theorem FC{o:Option Int}(h:kN x=(y,o)):x.s.aG.length<=y.s.aG.length:=by
 unfold kN St.bL at h;repeat' split at h
 all_goals (cases h;exact aW _)
theorem zO{α β:Type}{r:X×Option α}{f:α->X->X×Option β}{o:Option β}(hr:∀z o,r=(z,o)->x.s.aG.length<=z.s.aG.length)(hf:∀v z o,f v z=(y,o)->z.s.aG.length<=y.s.aG.length)(h:kS r f=(y,o)):x.s.aG.length<=y.s.aG.length:=by
 obtain⟨z,p⟩:=r
 cases p with
 |none=>cases h;exact hr _ _ rfl
 |some v=>exact kR (hr _ _ rfl) (hf v z o h)
theorem tL{α:Type}:∀{t:I α} {x y:X} {o:Option α},bC t x=(y,o)->x.s.aG.length<=y.s.aG.length
 |.ret a,x,y,o,h=>by unfold bC at h;split at h<;>(cases h;exact aW _)
 |.load c k,x,y,o,h=>zO (λ_ _=>Vy) (λv z o h=>tL h) h
 |.cH c a n k,x,y,o,h=>zO (λ_ _=>n7) (λv z o h=>tL h) h
 |.alloc n i k,x,y,o,h=>zO (λ_ _=>Qr) (λv z o h=>tL h) h
 |.cell i k,x,y,o,h=>zO (λ_ _=>Yp) (λv z o h=>tL h) h
 |.gen k,x,y,o,h=>zO (λ_ _=>FC) (λv z o h=>tL h) h
 |.node r k,x,y,o,h=>by unfold bC at h;exact tL h
theorem leL{a v:Int}(q:eK a x=out y v):x.s.aG.length<=y.s.aG.length:=Vy q
theorem AX{n:Node}{i v:Int}(q:dE n i x=out y v):x.s.aG.length<=y.s.aG.length:=Qr q
theorem leE{i v:Int}(q:fU i x=out y v):x.s.aG.length<=y.s.aG.length:=Yp q
theorem leG{v:Int}(q:kN x=out y v):x.s.aG.length<=y.s.aG.length:=FC q
theorem uA{α:Type}{t:I α}{v:α}(q:bC t x=out y v):x.s.aG.length<=y.s.aG.length:=tL q
theorem Ok.len{j:Nat}(h:Ok j x):x.s.aG.length<=900000000000:=by
 have:=h.Cn;unfold X.size St.size cW at this;omega
theorem Ok.qJ{j:Nat}(h:Ok j x)(r:Int):(x.node r).Fit x.s.aG.length:=h.fit.node r
theorem Ok.nf{j:Nat}(h:Ok j x)(r:Int):NF (x.node r):=(h.fit.node r).nf h.len
theorem Nn{α:Type}{c:Bool}{a b:I α}{x:X}{o:X×Option α}(hc:c=true)(h:bC b x=o):bC (bif !c then a else b) x=o:=by rw[hc];exact h
theorem US{α:Type}{c:Bool}{a b:I α}{x:X}{o:X×Option α}(hc:c=false)(h:bC a x=o):bC (bif !c then a else b) x=o:=by rw[hc];exact h
theorem Ix(a b:Nat):((a:Int)==(b:Int))=(a==b):=by rw[Bool.eq_iff_iff,Ae,Ae];omega
theorem lfL{a v:Int}(q:eK a x=out y v):y.left<=x.left:=Dc q
theorem Xg{n:Node}{i:Int}{o:Option Int}(h:dE n i x=(y,o)):y.left<=x.left:=by
 unfold dE at h;repeat' split at h
 all_goals (cases h;exact aW _)
theorem JE{i:Int}{o:Option Int}(h:fU i x=(y,o)):y.left<=x.left:=by
 unfold fU at h;repeat' split at h
 all_goals (cases h;exact aW _)
theorem SL{o:Option Int}(h:kN x=(y,o)):y.left<=x.left:=by
 unfold kN at h;repeat' split at h
 all_goals (cases h;exact aW _)
theorem lfA{n:Node}{i v:Int}(q:dE n i x=out y v):y.left<=x.left:=Xg q
theorem lfE{i v:Int}(q:fU i x=out y v):y.left<=x.left:=JE q
theorem lfG{v:Int}(q:kN x=out y v):y.left<=x.left:=SL q
theorem Hf{α β:Type}{r:X×Option α}{f:α->X->X×Option β}{o:Option β}(hr:∀z o,r=(z,o)->z.left<=x.left)(hf:∀v z o,f v z=(y,o)->y.left<=z.left)(h:kS r f=(y,o)):y.left<=x.left:=by
 obtain⟨z,p⟩:=r
 cases p with
 |none=>cases h;exact hr _ _ rfl
 |some v=>exact kR (hf v z o h) (hr _ _ rfl)
theorem wP{α:Type}:∀{t:I α} {x y:X} {o:Option α},bC t x=(y,o)->y.left<=x.left
 |.ret a,x,y,o,h=>by unfold bC at h;split at h<;>(cases h;exact aW _)
 |.load c k,x,y,o,h=>Hf (λ_ _=>Dc) (λv z o h=>wP h) h
 |.cH c a n k,x,y,o,h=>Hf (λ_ _=>Yc) (λv z o h=>wP h) h
 |.alloc n i k,x,y,o,h=>Hf (λ_ _=>Xg) (λv z o h=>wP h) h
 |.cell i k,x,y,o,h=>Hf (λ_ _=>JE) (λv z o h=>wP h) h
 |.gen k,x,y,o,h=>Hf (λ_ _=>SL) (λv z o h=>wP h) h
 |.node r k,x,y,o,h=>by unfold bC at h;exact wP h
theorem V8{α:Type}{t:I α}{v:α}(q:bC t x=out y v):y.left<=x.left:=wP q
theorem sgA{n:Node}{i v:Int}(q:dE n i x=out y v)(h:x.e.aD=true):y.e.aD=true:=by
 unfold dE at q;rw[if_pos h]at q;have:x=y:=congrArg Prod.fst q;rw[<- this];exact h
theorem sgG{v:Int}(q:kN x=out y v)(h:x.e.aD=true):y.e.aD=true:=by
 unfold kN at q;rw[if_pos h]at q;have:x=y:=congrArg Prod.fst q;rw[<- this];exact h
theorem sgB{α:Type}{t:I α}{v:α}(q:bC t x=out y v)(h:x.e.aD=true):y.e.aD=true:=by
 rw[cU h]at q;have:x=y:=congrArg Prod.fst q;rw[<- this];exact h
theorem UH{α β γ:Type}(t:I α)(f:α->I β)(g:β->I γ)(x:X):bC ((t.bind f).bind g) x=bC (t.bind λv=>(f v).bind g) x:=by
 rw[kJ,kJ,kJ,wA];exact qS λv y=>(kJ _ _ _).symm
theorem Bv{α β γ:Type}{t:I α}{f:α->I β}{g:β->I γ}{x y:X}{v:α}{o:X×Option γ}(q:bC t x=out y v)(h:bC ((f v).bind g) y=o):bC ((t.bind f).bind g) x=o:=(UH t f g x).trans (rB q h)
theorem WB{α β:Type}{r:Int}{k:Node->I α}{g:α->I β}{x:X}{o:X×Option β}(h:bC ((k (x.node r)).bind g) x=o):bC ((I.node r k).bind g) x=o:=h
theorem O7{α β:Type}{c:Bool}{a b:I α}{g:α->I β}{x:X}{o:X×Option β}(hc:c=true)(h:bC (a.bind g) x=o):bC ((bif c then a else b).bind g) x=o:=by rw[hc];exact h
theorem Ng{α β:Type}{c:Bool}{a b:I α}{g:α->I β}{x:X}{o:X×Option β}(hc:c=false)(h:bC (b.bind g) x=o):bC ((bif c then a else b).bind g) x=o:=by rw[hc];exact h
theorem rst{α:Type}{t t':I α}{y:X}(h:y.e.aD=true):bC t y=bC t' y:=by rw[cU h,cU h]
def aHz(c:Call)(k n:Nat):Option Result->I Result
 |some r=>.ret r
 |none=>Jf c k n
theorem Yq(c:Call)(k n:Nat):Jf c k (n+1)=(xP c.aF).bind λi=>.node i λa=>(Pn c (aE c.key c.aI) a.gen k 0 i 0).bind (aHz c k n):=by
 rw[Jf];congr 1
def aBq(c:Call)(k n:Nat):Option Result->I Result
 |some r=>.ret r
 |none=>vM c k n
theorem Tl(c:Call)(k n:Nat):vM c k (n+1)=(xP c.aF).bind λi=>.node i λa=>(zC c (aE c.key c.aI) a.gen k [i] i 0).bind (aBq c k n):=by
 rw[vM];congr 1
theorem CN(a b:Nat):((a:Int) != (b:Int))=(a != b):=by unfold bne;rw[Ix]
theorem RM{α:Type}{a b:Nat}{c:Int}{k:Int->I α}{v:α}{j:Nat}(hx:Ok j x)(hk:∀v,lZ a b (k v))(ha:a<=j+99)(q:bC (.load c k) x=out y v):y.e.aD=true\/x.e.aD=false/\y.left<x.left:=by
 cases hs:x.e.aD with
 |true=>rw[cU hs]at q;have q1:x=y:=congrArg Prod.fst q;subst q1;exact .inl hs
 |false=>
  rw[run_load]at q
  obtain⟨z,o,hz⟩:∃z o,eK c x=(z,o):=⟨_,_,rfl⟩
  rw[hz]at q
  cases o with
  |none=>
   have q1:z=y:=congrArg Prod.fst q
   subst q1;exact .inl (DV hz)
  |some u=>
   have KL:=IC hz
   obtain⟨k1,k2,k3,_⟩:=Nk hx (show eK c x=out z u by rw[hz,kO KL])
   have:=((hk u).ok (k1.less ha) q).2.2.1
   exact .inr ⟨rfl,by have:=(k3 KL).1;omega⟩
theorem Ao{t:aX}{i v:Int}{j:Nat}(hx:Ok j x)(q:bC (sE t i) x=out y v):y.e.aD=true\/x.e.aD=false/\y.left<x.left:=
 RM (c:=(x.node i).main) (k:=λm=>Av t i m) hx (λm=>zP t i m) (by omega) q
theorem OO(t:aX)(v:Int):lZ 129 60 (.node v λd=>bif d.kind==2 then .ret v else .node v λd=>.load d.status λs=>bif s==0 then(Bg t v).bind λ_=>.node v λd=>.load d.status λs=>Uq t v s else Uq t v s):=
 λj L hj M d hM hd=>iF.bif (λ_=>⟨by omega,hM,trivial⟩) λ_ M2 d2 YY cO s=>
  iF.bif (λ_=>(yK t v).then (by omega) λj' L' _ oU Mi _ M4 d4 hM4 eB s2=>(vK t v s2).at (by omega) (by omega)) λ_=>(vK t v s).at (by omega) (by omega)
theorem Ev{t:aX}{v:Int}{j:Nat}(hx:Ok j x)(hj:30<=j)(q:bC (xP t) x=out y v):y.e.aD=true\/x.e.aD=false/\y.left<x.left:=
 RM (c:=t.root) hx (λv=>OO t v) (by omega) q
theorem Ap{α:Type}{a b:Nat}{t:I α}{Q:α->Prop}{v:α}{j:Nat}(h:lZ a b t Q)(hx:Ok j x)(ha:a<=j)(q:bC t x=out y v):y.left<=x.left:=(h.ok (hx.less ha) q).2.2.1
end Go.Ct
end
