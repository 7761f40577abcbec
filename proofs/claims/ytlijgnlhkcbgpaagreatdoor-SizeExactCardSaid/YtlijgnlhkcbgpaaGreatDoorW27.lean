/- Parts of a proof: Wp, Wl, Wm, Po, Lp, Ro. -/
import Derived.Test.YtlijgnlhkcbgpaaGreatDoorW26
set_option linter.unusedVariables false
set_option linter.unusedSimpArgs false
set_option maxRecDepth 100000
set_option maxHeartbeats 4000000
section
namespace Go.Ct
variable{g:Ga}
def X.wt(x:X):Nat:=x.e.eG.length+2*x.e.made.length+x.e.cells.length+x.e.dG.length
def Ju(x y:X):Prop:=y.s.size+x.wt<=x.s.size+y.wt
theorem Ju.refl(x:X):Ju x x:=bD _
theorem Ju.trans{x y z:X}(h:Ju x y)(k:Ju y z):Ju x z:=by unfold Ju at *;omega
theorem Sc(s:St)(i:Int):(s.aV i).1.size=s.size+1:=by unfold St.aV St.size;simp;omega
theorem Vf(s:St):s.bS.1.size=s.size+1:=by unfold St.bS St.size;simp;omega
theorem JU{c:Int}{x y:X}{o:Option Int}(h:dY c x=(y,o)):Ju x y:=by
 unfold dY nD rX jR at h;repeat' split at h
 all_goals (cases h;unfold Ju X.wt;try dsimp only)
 all_goals first
  |exact bD _
  |(rw[cO,CG];have:=(St.Cp x.s c).1;omega)
theorem MZ{c a n:Int}{x y:X}{o:Option Bool}(h:iB c a n x=(y,o)):Ju x y:=by
 unfold iB nD rX jR at h;repeat' split at h
 all_goals (cases h;unfold Ju X.wt;try dsimp only)
 all_goals first
  |exact bD _
  |(rw[cO,CG];have:=(St.Bu x.s c a n).1;omega)
theorem CY{n:Node}{i:Int}{x y:X}{o:Option Int}(h:dB n i x=(y,o)):Ju x y:=by
 unfold dB at h;repeat' split at h
 all_goals (cases h;unfold Ju X.wt;try dsimp only)
 all_goals first
  |exact bD _
  |(rw[cO,CG];have:=(St.lP x.s n i).1;omega)
theorem IQ{i:Int}{x y:X}{o:Option Int}(h:fE i x=(y,o)):Ju x y:=by
 unfold fE at h;repeat' split at h
 all_goals (cases h;unfold Ju X.wt;try dsimp only)
 all_goals first
  |exact bD _
  |(rw[cO,CG];have:=Sc x.s i;omega)
theorem PH{x y:X}{o:Option Int}(h:iH x=(y,o)):Ju x y:=by
 unfold iH at h;repeat' split at h
 all_goals (cases h;unfold Ju X.wt;try dsimp only)
 all_goals first
  |exact bD _
  |(rw[cO,CG];have:=Vf x.s;omega)
theorem uF{α β:Type}{r:X×Option α}{f:α->X->X×Option β}{x y:X}{o:Option β}(hr:∀z o,r=(z,o)->Ju x z)(hf:∀v z o,f v z=(y,o)->Ju z y)(h:iP r f=(y,o)):Ju x y:=by
 obtain⟨z,p⟩:=r
 cases p with
 |none=>cases h;exact hr _ _ rfl
 |some v=>exact(hr _ _ rfl).trans (hf v z o h)
theorem pO{α:Type}:∀{t:I α} {x y:X} {o:Option α},aX t x=(y,o)->Ju x y
 |.ret a,x,y,o,h=>by unfold aX at h;split at h<;>(cases h;exact Ju.refl _)
 |.load c k,x,y,o,h=>uF (λ_ _=>JU) (λv z o h=>pO h) h
 |.eA c a n k,x,y,o,h=>uF (λ_ _=>MZ) (λv z o h=>pO h) h
 |.alloc n i k,x,y,o,h=>uF (λ_ _=>CY) (λv z o h=>pO h) h
 |.cell i k,x,y,o,h=>uF (λ_ _=>IQ) (λv z o h=>pO h) h
 |.gen k,x,y,o,h=>uF (λ_ _=>PH) (λv z o h=>pO h) h
 |.node r k,x,y,o,h=>by unfold aX at h;exact pO h
theorem wC(T:I Result)(free:Nat)(x:X):(bX T free x).s.size+x.wt<=x.s.size+(bX T free x).wt:=by
 have h:=pO (t:=T) (x:=cD free x) (y:=(aX T (cD free x)).1) (o:=(aX T (cD free x)).2) rfl
 have e:(cD free x).wt=x.wt/\(cD free x).s=x.s:=⟨rfl,rfl⟩
 unfold Ju at h
 rw[e.1,e.2]at h
 unfold bX JT
 split<;>exact h
theorem Hu(T:I Result)(free:Nat)(x:X):(bX T free x).e.call=x.e.call:=by
 have h:=lZ (t:=T) (x:=cD free x) (y:=(aX T (cD free x)).1) (o:=(aX T (cD free x)).2) rfl
 unfold bX JT
 split<;>exact h
def FU:Nat:=100000000
def Cx:Nat:=2000000
structure Er(g:Ga)(e:Ex)(u u':I Result):Prop where
 ok:kZ g e.call
 aI:e.call.aI<18446744073709551616
 key:e.call.key.size<=9223372036854775807
 sh:Sh u u' g
 rest:Rest (bY e.call FU) u' g e
 made:∀r∈e.made,1<=r/\r<=200000000000
 RZ:e.eG.length<=Cx
theorem Er.ge{g':Ga}{e:Ex}{u u':I Result}(h:Er g e u u')(hw:GW g)(k:Ge g g'):Er g' e u u':=⟨h.ok.ge k,h.aI,h.key,h.sh.ge k hw,h.rest.ge k,h.made,h.RZ⟩
theorem nZ.WL{s:St}(h:nZ g s)(hf:eK s):PG g:=by unfold PG;rw[<- h.nodes];exact hf
theorem Sk{c:Call}(hk:c.kind=8)(h:refused c=0):c.key.size<=64:=vW h (.inr (.inl hk))
theorem Er.MK{e:Ex}{u u':I Result}(h:Er g e u u')(hf:PG g):e.made.length+e.cells.length+e.dG.length<=60+99*e.eG.length:=
 (HQ e.call FU Sk).rp hf h.rest.rp λr hr=>(h.made r hr).1
theorem Er.result{e:Ex}{u u':I Result}(h:Er g e u u')(hd:e.done=true):e.result.aE.root<=0\/Tk g e.result.aE:=by
 have hu:u'.ended.isSome=true:=by rw[<- h.rest.done];exact hd
 have hs:=h.sh
 have hr:=h.rest.A6
 cases hs with
 |ret a _ hq=>rw[hr a rfl];exact hq
 |load τ h1 h2=>cases hu
 |xM h2=>cases hu
 |eA τ h1 hm h2=>cases hu
def room:Nat:=90000000000
theorem Er.ready{e:Ex}{s:St}{u u':I Result}(h:Er g e u u')(ht:nZ g s)(hf:eK s)(hs:s.size<=room):Ok 60 (cD 1 ⟨e,s⟩)/\(cD 1 ⟨e,s⟩).left<FU:=by
 have hu:=h.MK (ht.WL hf)
 have hm:=h.RZ
 unfold Cx at hm
 unfold room at hs
 have hl:(cD 1 ⟨e,s⟩).left=e.eG.length+1:=rfl
 have hz:(cD 1 ⟨e,s⟩).size=s.size+e.eG.length+e.made.length+e.cells.length+e.dG.length:=rfl
 refine⟨⟨hf,.inr ?_,?_,Xe _,Xe _,Xe _,Xe _,h.made,by show 1<=10;decide⟩,by rw[hl];unfold FU;omega⟩
 ·rw[hl,hz];unfold cN;omega
 ·rw[hz];unfold cN;omega
theorem Er.step{e:Ex}{s:St}{u u':I Result}(h:Er g e u u')(hw:GW g)(ht:nZ g s)(hf:eK s)(hd:e.done=false)(hn:e.eG.length<Cx)(hok:Ok 50 (bX (bY e.call FU) 1 ⟨e,s⟩)):
  ∃g' v v',u.step s=((bX (bY e.call FU) 1 ⟨e,s⟩).s,v)/\Ge g g'/\GW g'/\nZ g' (bX (bY e.call FU) 1 ⟨e,s⟩).s/\eK (bX (bY e.call FU) 1 ⟨e,s⟩).s/\Er g' (bX (bY e.call FU) 1 ⟨e,s⟩).e v v'/\
   (bX (bY e.call FU) 1 ⟨e,s⟩).e.eG.length=e.eG.length+1/\(bX (bY e.call FU) 1 ⟨e,s⟩).s.size+(X.mk e s).wt<=s.size+(199*(e.eG.length+1)+120)/\(bX (bY e.call FU) 1 ⟨e,s⟩).wt<=199*(e.eG.length+1)+120:=by
 obtain⟨g',v,v',h1,h2,h3,h4,h5,h6,a,h7⟩:=h.rest.step (x:=⟨e,s⟩) h.sh hw ht hd
 have hc:=Hu (bY e.call FU) 1 ⟨e,s⟩
 have hlen:(bX (bY e.call FU) 1 ⟨e,s⟩).e.eG.length=e.eG.length+1:=by rw[h7,cO];rfl
 have hE:Er g' (bX (bY e.call FU) 1 ⟨e,s⟩).e v v':=⟨by rw[hc];exact h.ok.ge h2,by rw[hc];exact h.aI,by rw[hc];exact h.key,h5,by rw[hc];exact h6,hok.made,by rw[hlen];exact hn⟩
 have hu:=hE.MK (h4.WL hok.fit)
 have hb:=wC (bY e.call FU) 1 ⟨e,s⟩
 have hes:(X.mk e s).s.size=s.size:=rfl
 have hwt:(bX (bY e.call FU) 1 ⟨e,s⟩).wt<=199*(e.eG.length+1)+120:=by unfold X.wt;omega
 exact⟨g',v,v',h1,h2,h3,h4,hok.fit,hE,hlen,by omega,hwt⟩
theorem gW{c:Call}{s:St}(hf:eK s)(hs:s.size<=room):Ok 60 (cD 0 ⟨{call:=c},s⟩)/\(cD 0 ⟨{call:=c},s⟩).left<FU:=by
 unfold room at hs
 have hz:(cD 0 ⟨{call:=c},s⟩).size=s.size:=rfl
 have hl:(cD 0 ⟨{call:=c},s⟩).left=0:=rfl
 refine⟨⟨hf,.inr ?_,?_,Xe _,Xe _,Xe _,Xe _,(λr hr=>by cases hr),by show 0<=10;decide⟩,by rw[hl];unfold FU;omega⟩
 ·rw[hl,hz];unfold cN;omega
 ·rw[hz];unfold cN;omega
theorem Er.start{c:Call}{s:St}(hw:GW g)(ht:nZ g s)(hf:eK s)(hc:kZ g c)(hm:c.aI<18446744073709551616)(hk:c.key.size<=9223372036854775807)(hok:Ok 50 (bX (bY c FU) 0 ⟨{call:=c},s⟩)):
  ∃g' u u',(mS c FU).head s=((bX (bY c FU) 0 ⟨{call:=c},s⟩).s,u)/\Ge g g'/\GW g'/\nZ g' (bX (bY c FU) 0 ⟨{call:=c},s⟩).s/\eK (bX (bY c FU) 0 ⟨{call:=c},s⟩).s/\Er g' (bX (bY c FU) 0 ⟨{call:=c},s⟩).e u u'/\
   (bX (bY c FU) 0 ⟨{call:=c},s⟩).e.eG=[]/\(bX (bY c FU) 0 ⟨{call:=c},s⟩).s.size<=s.size+120/\(bX (bY c FU) 0 ⟨{call:=c},s⟩).wt<=120/\(bX (bY c FU) 0 ⟨{call:=c},s⟩).e.call=c:=by
 obtain⟨g',u,u',h1,h2,h3,h4,h5,h6,h7⟩:=Rest.start (SB (n:=FU) hw hc) hw (x:=⟨{call:=c},s⟩) ht rfl rfl rfl rfl rfl
 have hcc:=Hu (bY c FU) 0 ⟨{call:=c},s⟩
 have hE:Er g' (bX (bY c FU) 0 ⟨{call:=c},s⟩).e u u':=⟨by rw[hcc];exact hc.ge h2,by rw[hcc];exact hm,by rw[hcc];exact hk,h5,by rw[hcc];exact h6,hok.made,by rw[h7];exact Xe _⟩
 have hu:=hE.MK (h4.WL hok.fit)
 have hb:=wC (bY c FU) 0 ⟨{call:=c},s⟩
 rw[h7]at hu
 have hwt:(bX (bY c FU) 0 ⟨{call:=c},s⟩).wt<=120:=by unfold X.wt;rw[h7];simp at hu ⊢;omega
 refine⟨g',u,u',h1,h2,h3,h4,hok.fit,hE,h7,?_,hwt,hcc⟩
 have:(X.mk {call:=c} s).wt=0:=rfl
 rw[this]at hb
 show _<=(X.mk {call:=c} s).s.size+120
 omega
end Go.Ct
end
section
namespace Go.Ct
variable{g:Ga}
structure uM(g:Ga)(S0 i:Nat)(x:X):Prop where
 ex:∃g' u u',Ge g g'/\GW g'/\nZ g' x.s/\eK x.s/\Er g' x.e u u'
 eG:x.e.eG.length<=i
 size:x.s.size<=S0+x.wt
 wt:x.wt<=199*i+120
theorem uM.mono{S0 i j:Nat}{x:X}(h:uM g S0 i x)(hj:i<=j):uM g S0 j x:=⟨h.ex,lK h.eG hj,h.size,by have:=h.wt;omega⟩
theorem uM.call{S0 i:Nat}{x:X}(h:uM g S0 i x):x.e.call.aI<18446744073709551616/\x.e.call.key.size<=9223372036854775807/\7<=x.e.call.kind/\(x.e.call.kind<=12\/x.e.call.kind=14):=by
 obtain⟨g',u,u',_,_,_,_,hE⟩:=h.ex
 exact⟨hE.aI,hE.key,hE.ok.lo,hE.ok.hi⟩
theorem uM.start{c:Call}{s:St}(hw:GW g)(ht:nZ g s)(hf:eK s)(hc:kZ g c)(hm:c.aI<18446744073709551616)(hk:c.key.size<=9223372036854775807)(hok:Ok 50 (bX (bY c FU) 0 ⟨{call:=c},s⟩)):
  uM g s.size 0 (bX (bY c FU) 0 ⟨{call:=c},s⟩):=by
 obtain⟨g',u,u',_,h2,h3,h4,h5,h6,h7,h8,h9,_⟩:=Er.start hw ht hf hc hm hk hok
 have hb:=wC (bY c FU) 0 ⟨{call:=c},s⟩
 have e1:(X.mk {call:=c} s).wt=0:=rfl
 have e2:(X.mk {call:=c} s).s.size=s.size:=rfl
 exact⟨⟨g',u,u',h2,h3,h4,h5,h6⟩,by rw[h7];exact bD _,by omega,by omega⟩
theorem uM.ready{S0 i:Nat}{x:X}(h:uM g S0 i x)(hs:S0+199*i+120<=room):Ok 60 (cD 1 x)/\(cD 1 x).left<FU:=by
 obtain⟨g',u,u',_,hw,ht,hf,hE⟩:=h.ex
 have h1:=h.size
 have h2:=h.wt
 exact hE.ready (s:=x.s) ht hf (by omega)
theorem uM.step{S0 i:Nat}{x:X}(h:uM g S0 i x)(hd:x.e.done=false)(hi:i<Cx)(hok:Ok 50 (bX (bY x.e.call FU) 1 x)):uM g S0 (i+1) (bX (bY x.e.call FU) 1 x):=by
 obtain⟨g',u,u',k,hw,ht,hf,hE⟩:=h.ex
 obtain⟨g2,v,v',_,k2,h2,h3,h4,h5,h6,h7,h8⟩:=hE.step (s:=x.s) hw ht hf hd (fU h.eG hi) hok
 have hb:=wC (bY x.e.call FU) 1 x
 have hz:=h.size
 have hg:=h.eG
 exact⟨⟨g2,v,v',k.trans k2,h2,h3,h4,h5⟩,by rw[show (bX (bY x.e.call FU) 1 x).e.eG.length=x.e.eG.length+1 from h6];omega,by omega,lK h8 (by omega)⟩
def DJ(zs:List (Nat×Ex))(b:Nat)(e:Ex):List (Nat×Ex):=if e.done=true then zs else zs++[(b,e)]
def Jw(ts:List bC)(e:Ex):List bC:=if e.done=true/\0<e.result.aE.root/\ts.length<5 then ts++[e.result.aE]else ts
structure Lc(k:Nat)(g:Ga)(s:St)(ts:List bC)(zs:List (Nat×Ex)):Prop where
 gw:GW g
 PI:nZ g s
 fit:eK s
 GO:∀t∈ts,Tk g t
 first:(ts.getD 0 {}).readOnly=false
 some:0<ts.length
 Qr:ts.length<=5
 ex:∀z∈zs,z.2.eG.length<=1048576+k/\∃u u',Er g z.2 u u'
 RZ:zs.length<=k
 size:s.size<=1000000000*(k+1)
theorem Lc.m6{k n b:Nat}{s:St}{ts:List bC}{zs:List (Nat×Ex)}{x:X}(h:Lc k g s ts zs)(hx:uM g s.size n x)(hn:n<=1048576):∃g',Lc (k+1) g' x.s (Jw ts x.e) (DJ zs b x.e):=by
 obtain⟨g',u,u',hk,hw,ht,hf,hE⟩:=hx.ex
 have hT:∀t∈ts,Tk g' t:=λt m=>(h.GO t m).ge hk
 have hZ:∀z∈zs,z.2.eG.length<=1048576+(k+1)/\∃u u',Er g' z.2 u u':=λz m=>by
  obtain⟨h1,v,v',h2⟩:=h.ex z m
  exact⟨by omega,v,v',h2.ge h.gw hk⟩
 have hs:x.s.size<=1000000000*(k+1+1):=by have:=hx.size;have:=hx.wt;have:=h.size;omega
 have h5:=h.Qr
 have h0:=h.some
 refine⟨g',hw,ht,hf,?_,?_,?_,?_,?_,?_,hs⟩
 ·unfold Jw
  split
  ·rename_i hc
   intro t m
   rcases List.mem_append.1 m with m|m
   ·exact hT t m
   ·rw[List.mem_singleton.1 m]
    rcases hE.result hc.1 with hr|hr
    ·omega
    ·exact hr
  ·exact hT
 ·unfold Jw
  split
  ·rw[eX,xD h0,<- eX];exact h.first
  ·exact h.first
 ·unfold Jw;split
  ·rw[cO];omega
  ·exact h0
 ·unfold Jw
  split
  ·rename_i hc
   rw[cO,CG];omega
  ·exact h5
 ·unfold DJ
  split
  ·exact hZ
  ·intro z m
   rcases List.mem_append.1 m with m|m
   ·exact hZ z m
   ·rw[List.mem_singleton.1 m]
    exact⟨by have:=hx.eG;show x.e.eG.length<=_;omega,u,u',hE⟩
 ·have:=h.RZ
  unfold DJ;split
  ·omega
  ·rw[cO,CG];omega
theorem Lc.ready{k i:Nat}{s:St}{ts:List bC}{zs:List (Nat×Ex)}(h:Lc k g s ts zs)(hk:k<=40){z:Nat×Ex}(hz:z∈zs):Ok 60 (cD 1 ⟨z.2,s⟩)/\(cD 1 ⟨z.2,s⟩).left<FU/\z.2.call.aI<18446744073709551616/\z.2.call.key.size<=9223372036854775807/\7<=z.2.call.kind/\(z.2.call.kind<=12\/z.2.call.kind=14):=by
 obtain⟨h1,u,u',hE⟩:=h.ex z hz
 have hs:=h.size
 obtain⟨a,b⟩:=hE.ready h.PI h.fit (by unfold room;omega)
 exact⟨a,b,hE.aI,hE.key,hE.ok.lo,hE.ok.hi⟩
theorem Lc.step{k i:Nat}{s:St}{ts:List bC}{zs:List (Nat×Ex)}(h:Lc k g s ts zs)(hk:k<=40)(hi:i<zs.length)(hd:zs[i].2.done=false)(hok:Ok 50 (bX (bY zs[i].2.call FU) 1 ⟨zs[i].2,s⟩)):
  ∃g',Lc (k+1) g' (bX (bY zs[i].2.call FU) 1 ⟨zs[i].2,s⟩).s ts (zs.set i (zs[i].1,(bX (bY zs[i].2.call FU) 1 ⟨zs[i].2,s⟩).e)):=by
 obtain⟨h1,u,u',hE⟩:=h.ex _ (qR hi)
 obtain⟨g2,v,v',_,k2,h2,h3,h4,h5,h6,h7,h8⟩:=hE.step h.gw h.PI h.fit hd (by unfold Cx;omega) hok
 have hs:=h.size
 refine⟨g2,h2,h3,h4,λt m=>(h.GO t m).ge k2,h.first,h.some,h.Qr,?_,?_,?_⟩
 ·intro z m
  rcases List.mem_or_eq_of_mem_set m with m|rfl
  ·obtain⟨a,w,w',b⟩:=h.ex z m
   exact⟨by omega,w,w',b.ge h.gw k2⟩
  ·exact⟨by show (bX (bY zs[i].2.call FU) 1 ⟨zs[i].2,s⟩).e.eG.length<=_;omega,v,v',h5⟩
 ·rw[Fh];have:=h.RZ;omega
 ·omega
theorem Lc.mono{k j:Nat}{s:St}{ts:List bC}{zs:List (Nat×Ex)}(h:Lc k g s ts zs)(hj:k<=j):Lc j g s ts zs:=
 ⟨h.gw,h.PI,h.fit,h.GO,h.first,h.some,h.Qr,λz m=>⟨by have:=(h.ex z m).1;omega,(h.ex z m).2⟩,by have:=h.RZ;omega,by have:=h.size;omega⟩
end Go.Ct
end
section
namespace Go.Ct
variable{g:Ga}
def FY:I Result:=.alloc {kind:=3} 0 wK
def SI:I Result:=.alloc {kind:=3} 0 Bt
theorem KP(hw:GW g):Sm SI FY g:=
 .alloc (0,0) (Js (by decide) (by decide)) ⟨(λh=>by cases h),(λ_=>.inl rfl),λh=>by cases h⟩ λh3 hw3=>Ce hw3 (kQ hw rfl)
def g0:Ga:=⟨[],[],[],[],0,λ_=>False⟩
theorem D4:GW g0:=⟨(λn h=>by cases h),(λn h=>by cases h),(λn h=>by cases h),(λn h=>by cases h),(λn h=>by cases h),.nil,rfl,rfl,λr b h=>by
 have h3:=sV (g:=g0) h.two
 have h4:=h.dU
 have e:g0.count=2:=rfl
 omega⟩
theorem B9:nZ g0 {}:=⟨rfl,rfl,rfl,(λc τ h=>by have:=sR h;have e:g0.ty.length=0:=rfl;omega),(λc h=>h.elim),λc b hc hz=>hz.elim⟩
def mG(s:St):St×bC:=
 let a:=s.alloc {kind:=3} 0
 let g:=a.1.bS
 let m:=g.1.alloc {kind:=2,gen:=g.2} a.2
 let c:=m.1.aV m.2
 (c.1,{root:=c.2})
theorem TR:eK {}:=λn h=>by cases h
theorem DW:eK (mG {}).1:=
 (eK.alloc (s:=(({}:St).alloc {kind:=3} 0).1.bS.1) (eK.alloc (s:={}) TR (fY _) 0) (bG _ 2 _ 0 0 0) _:eK _)
theorem d5:∃g,Lc 0 g (mG {}).1 [(mG {}).2] []:=by
 obtain⟨g',s',u,u',h1,h2,h3,h4,h5,h6⟩:=(KP D4).head D4 {} B9
 have e:FY.head {}=((mG {}).1,.ret {found:=true,aE:=(mG {}).2}):=rfl
 rw[e]at h2
 obtain⟨rfl,rfl⟩:=Prod.mk.inj h2
 cases h6 with
 |ret a _ hq=>
  refine⟨g',h4,h5,DW,?_,rfl,Nat.succ_pos 0,by show 1<=5;omega,(λz m=>by cases m),bD _,by decide⟩
  intro t m
  rw[List.mem_singleton.1 m]
  rcases hq with hq|hq
  ·exact absurd hq (by decide)
  ·exact hq
theorem Lc.Gz{k:Nat}{s:St}{ts:List bC}{zs:List (Nat×Ex)}{c:Call}(h:Lc k g s ts zs)(h7:7<=c.kind)(h12:c.kind<=12)(hm:c.aE∈ts)(hr:c.kind=8\/c.kind=9\/c.kind=12->c.aE.readOnly=false):kZ g c:=
 ⟨h7,.inl h12,h.GO _ hm,hr⟩
end Go.Ct
end
section
namespace Go.Ct
variable{g:Ga}
theorem FE(b:Nat):∀n p,p<Bm.pop n b->∃i,i<n/\b.testBit i=true/\Bm.pop i b=p
 |0,p,h=>absurd h (by unfold Bm.pop;omega)
 |n+1,p,h=>by
  rw[Bm.cZ]at h
  by_cases h1:p<Bm.pop n b
  ·obtain⟨i,a,c⟩:=FE b n p h1;exact⟨i,Nat.lt_succ_of_lt a,c⟩
  ·cases hb:b.testBit n with
   |false=>rw[hb]at h;simp at h;omega
   |true=>rw[hb]at h;simp at h;exact⟨n,by omega,hb,by omega⟩
theorem Yj{n:Node}(h:n.lO=true){r:Int}(hr:r∈n.aA):∃k,aB n k=(r,true):=by
 obtain⟨j,hj,rfl⟩:=List.getElem_of_mem hr
 obtain⟨i,h1,h2,h3⟩:=FE n.aD 64 j (by rw[<- (hG h).2];exact hj)
 have hh:Bm.has n.aD i=true:=by unfold Bm.has;rw[cW (show (0:Int)<=(i:Int) by omega),cW (show (i:Int)<64 by omega)];simpa using h2
 refine⟨i,?_⟩
 unfold aB
 rw[if_neg (by rw[h,hh];simp)]
 have hp:Bm.aO n.aD i=j:=by
  unfold Bm.aO Bm.cut
  by_cases h0:i=0
  ·subst h0;simpa[Bm.pop]using h3
  ·rw[if_neg (by omega),if_neg (by omega)];simpa using h3
 rw[hp,eX,fM hj];rfl
def Node.gZ(n:Node):Int:=if n.kind=2 then n.main else if n.bM=true then n.prev else if n.kind=8 then n.status else 0
structure iV(s:St):Prop where
 cells:∀r∈s.cells,0<=r/\r<=((2+s.aG.length:Nat):Int)
 node:∀n∈s.aG,n.valid=true/\n.gen<=(s.gen:Int)/\(∀r∈n.aA,0<=r/\r<=((2+s.aG.length:Nat):Int))/\(0<=n.dC/\n.dC<=((2+s.aG.length:Nat):Int))/\(0<=n.aK/\n.aK<=((2+s.aG.length:Nat):Int))/\0<=n.new/\n.new<=((2+s.aG.length:Nat):Int)
 cell:∀n∈s.aG,n.cA=true->1<=n.cellOf/\n.cellOf<=(s.cells.length:Int)
 main:∀n∈s.aG,n.kind=2->n.cellOf=n.main
 prev:∀n∈s.aG,n.bM=true->n.cellOf=n.prev
 status:∀n∈s.aG,n.kind=8->n.cellOf=n.status
 sort:(s.aG.filter Node.cA).Pairwise λa b=>a.cellOf<b.cellOf
theorem iY{r:Int}(h:(g.node r).kind≠0):0<=r/\r<=((2+g.nodes.length:Nat):Int):=by
 have h1:=uA h
 have h2:=kI h
 unfold Ga.count at h2;omega
theorem kB.range{c v:Int}{τ:eY}(h:kB g c v τ):0<=v/\v<=((2+g.nodes.length:Nat):Int):=by
 cases τ with
 |root=>
   rcases h with h|h
   ·exact iY (by rw[h.1];decide)
   ·exact iY (by rw[show (g.node v).kind=8 from h];decide)
 |fixed=>exact iY (by rw[h.1];decide)
 |main b=>exact iY (by have:=oH.two h;omega)
 |prev b=>
   rcases h with h|h|h
   ·omega
   ·exact iY (by rw[h.1.1];decide)
   ·exact iY (by have:=oH.two h.2.1;omega)
 |status=>rcases h with h|h|h<;>omega
theorem Vk{n:Node}(h:n.valid=true):(n.kind≠2->n.gen=0)/\(n.kind≠3->n.aA=[])/\(n.kind≠7->n.kind≠8->n.dC=0)/\(n.kind≠8->n.aK=0/\n.new=0):=by
 have hv:=tG h
 have hk:=nF h
 refine⟨λk=>?_,λk=>?_,λk k'=>?_,λk=>⟨?_,?_⟩⟩<;>
  (rw[hv];unfold Node.only;repeat' split)<;>first|rfl|(exfalso;omega)
theorem IE{s:St}(hw:GW g)(ht:nZ g s):iV s:=by
 have hn:=ht.nodes
 have hmem:∀n∈s.aG,∃b,(n,b)∈g.zip:=λn m=>EP hw (by rw[<- hn];exact m)
 refine⟨?_,?_,?_,?_,?_,?_,by rw[hn];exact hw.sort⟩
 ·intro r hr
  obtain⟨j,hj,rfl⟩:=List.getElem_of_mem hr
  have hl:=ht.len
  have hc:g.oA (j+1)=some (g.ty[j]'(by omega)):=by
   unfold Ga.oA
   rw[if_neg (by omega)]
   have:((j:Int)+1).toNat -1=j:=by omega
   rw[this,fM]
  have:=(ht.holds _ _ hc).range
  have e:((j:Int)+1).toNat -1=j:=by omega
  rw[e,eX,fM hj]at this
  rw[hn];exact this
 ·intro n m
  obtain⟨b,hz⟩:=hmem n m
  have ho:cJ g n b:=hw.node _ hz
  have hf:=Vk ho.valid
  have z0:(0:Int)<=0/\(0:Int)<=((2+g.nodes.length:Nat):Int):=by omega
  rw[hn,ht.gen]
  refine⟨ho.valid,?_,?_,?_,?_,?_⟩
  ·by_cases k:n.kind=2
   ·exact(ho.i k).1
   ·rw[hf.1 k];omega
  ·intro r hr
   by_cases k:n.kind=3
   ·obtain⟨i,hi⟩:=Yj (n:=n) (by unfold Node.lO;rw[k,ho.valid];rfl) hr
    have:=(ho.c k).2.2 i (by rw[hi])
    rw[hi]at this
    rcases this with h|h
    ·exact iY (by rw[h.1];decide)
    ·exact iY (by rw[h.1];decide)
   ·rw[hf.2.1 k]at hr;cases hr
  ·by_cases k:n.kind=7
   ·exact iY (by have:=(ho.f k).two;omega)
   ·by_cases k':n.kind=8
    ·exact iY (by rw[((ho.d k').1).1];decide)
    ·rw[hf.2.2.1 k k'];exact z0
  ·by_cases k:n.kind=8
   ·exact iY (by have:=((ho.d k).2.1).two;omega)
   ·rw[(hf.2.2.2 k).1];exact z0
  ·by_cases k:n.kind=8
   ·exact iY (by rw[((ho.d k).2.2).1];decide)
   ·rw[(hf.2.2.2 k).2];exact z0
 ·intro n m hc
  obtain⟨b,hz⟩:=hmem n m
  obtain⟨τ,hτ⟩:=Jr b hc
  have:=sR (hw.cell _ hz τ hτ)
  have hl:=ht.len
  dsimp only at this;omega
 ·intro n m k;obtain⟨b,hz⟩:=hmem n m;exact hw.main _ hz k
 ·intro n m k;obtain⟨b,hz⟩:=hmem n m;exact hw.prev _ hz k
 ·intro n m k;obtain⟨b,hz⟩:=hmem n m;exact hw.status _ hz k
structure FO(s:St)(n:Node):Prop where
 valid:n.valid=true
 gen:n.gen<=(s.gen:Int)
 br:∀r∈n.aA,0<=r/\r<=((2+s.aG.length:Nat):Int)
 dC:0<=n.dC/\n.dC<=((2+s.aG.length:Nat):Int)
 ex:0<=n.aK/\n.aK<=((2+s.aG.length:Nat):Int)
 nw:0<=n.new/\n.new<=((2+s.aG.length:Nat):Int)
 lo:n.cA=true->1<=n.gZ/\n.gZ<=(s.cells.length:Int)
theorem iV.gZ{s:St}(h:iV s){n:Node}(m:n∈s.aG)(hc:n.cA=true):n.gZ=n.cellOf:=by
 unfold Node.gZ
 split
 ·rename_i k;exact(h.main n m k).symm
 ·split
  ·rename_i k;exact(h.prev n m k).symm
  ·split
   ·rename_i k;exact(h.status n m k).symm
   ·unfold Node.cA at hc;simp_all
theorem Bx:gY.cA=false:=by decide
theorem iV.all{s:St}(h:iV s):∀n∈gY::gY::s.aG,FO s n:=by
 have hm:FO s gY:=⟨by decide+kernel,by show (0:Int)<=_;omega,(λr hr=>by cases hr),by show (0:Int)<=0/\(0:Int)<=_;omega,by show (0:Int)<=0/\(0:Int)<=_;omega,by show (0:Int)<=0/\(0:Int)<=_;omega,λhc=>by rw[Bx]at hc;cases hc⟩
 intro n m
 rcases List.mem_cons.1 m with rfl|m
 ·exact hm
 ·rcases List.mem_cons.1 m with rfl|m
  ·exact hm
  ·obtain⟨h1,h2,h3,h4,h5,h6⟩:=h.node n m
   exact⟨h1,h2,h3,h4,h5,h6,λhc=>by rw[h.gZ m hc];exact h.cell n m hc⟩
theorem iV.tC{s:St}(h:iV s):((gY::gY::s.aG).filter Node.cA).Pairwise λa b=>a.gZ<b.gZ:=by
 rw[Co,if_neg (by rw[Bx];decide),Co,if_neg (by rw[Bx];decide)]
 refine h.sort.imp_of_mem λ{a b} ha hb hlt=>?_
 rw[List.mem_filter]at ha hb
 rw[h.gZ ha.1 ha.2,h.gZ hb.1 hb.2];exact hlt
def Eu(ns:List Node)(k:Nat)(bs:List Bool):Prop:=∀j,bs.getD j false=true->∃n∈ns.take k,n.cA=true/\n.gZ=(j:Int)+1
theorem Hf(ns:List Node)(m:Nat):Eu ns 0 (List.replicate m false):=λj hj=>by
 rw[eX,List.getElem?_replicate]at hj
 split at hj<;>cases hj
theorem yI{ns:List Node}{k:Nat}{bs:List Bool}(h:Eu ns k bs):Eu ns (k+1) bs:=λj hj=>by
 obtain⟨n,m,h1⟩:=h j hj
 exact⟨n,Br (i:=k) (by rw[List.take_take,jI (by omega)];exact m),h1⟩
theorem Je{ns:List Node}{k j:Nat}{bs:List Bool}(h:Eu ns k bs)(hk:k<ns.length)(hc:(ns.getD k {}).cA=true)(hj:(ns.getD k {}).gZ -1=(j:Int)):Eu ns (k+1) (bs.set j true):=λi hi=>by
 by_cases e:i=j
 ·subst e
  refine⟨ns.getD k {},?_,hc,by omega⟩
  rw[eX,fM hk,List.take_add_one,fM hk];exact List.mem_append_right _ (List.mem_singleton_self _)
 ·refine yI h i ?_
  rw[eX,Dk (λq=>e q.symm),<- eX]at hi;exact hi
theorem Vy{ns:List Node}{k j:Nat}{bs:List Bool}(hs:(ns.filter Node.cA).Pairwise λa b=>a.gZ<b.gZ)(h:Eu ns k bs)(hk:k<ns.length)(hc:(ns.getD k {}).cA=true)(hj:(ns.getD k {}).gZ -1=(j:Int)):bs.getD j false=false:=by
 cases hb:bs.getD j false with
 |false=>rfl
 |true=>
  obtain⟨m,hm,h1,h2⟩:=h j hb
  have e:ns.getD k {}=ns[k]:=by rw[eX,fM hk];rfl
  have hns:ns=ns.take k++ns[k]::ns.drop (k+1):=by rw[<- cE hk,RF]
  rw[e]at hc hj
  rw[hns,Ab,List.pairwise_append]at hs
  have:=hs.2.2 m (List.mem_filter.2 ⟨hm,h1⟩) ns[k] (by rw[Co,if_pos hc];exact List.mem_cons_self ..)
  omega
end Go.Ct
end
section
namespace Go.Ct
variable{g:Ga}
structure Px where
 tb:Nat:=0
 xb:Nat:=0
 k:Nat:=0
 e:Ex:={}
 u:I Result:=.ret {}
structure Ub(i:Nat)(g:Ga)(s:St)(ys:List Px):Prop where
 gw:GW g
 PI:nZ g s
 fit:eK s
 ex:∀z∈ys,z.e.eG.length=z.k/\z.k<=i/\∃u',Er g z.e z.u u'
 size:s.size<=38000000000+200000*i
theorem Er.same{e:Ex}{u u':I Result}(h:Er g e u u'):e.done=u.ended.isSome/\(u.ended=none->e.next=u.acc)/\∀r,u.ended=some r->e.result=r:=by
 obtain⟨h1,h2⟩:=h.sh.acc
 exact⟨by rw[h.rest.done,<- h2],λq=>by rw[h.rest.next (by rw[<- h2];exact q),h1],λr q=>h.rest.A6 r (by rw[<- h2];exact q)⟩
theorem Ub.ready{i:Nat}{s:St}{ys:List Px}(h:Ub i g s ys)(hi:i<=1000){z:Px}(hz:z∈ys):Ok 60 (cD 1 ⟨z.e,s⟩)/\(cD 1 ⟨z.e,s⟩).left<FU/\z.e.call.aI<18446744073709551616/\z.e.call.key.size<=9223372036854775807/\7<=z.e.call.kind/\(z.e.call.kind<=12\/z.e.call.kind=14):=by
 obtain⟨h1,h2,u',hE⟩:=h.ex z hz
 have hs:=h.size
 obtain⟨a,b⟩:=hE.ready h.PI h.fit (by unfold room;omega)
 exact⟨a,b,hE.aI,hE.key,hE.ok.lo,hE.ok.hi⟩
def Px.next(z:Px)(s:St):Px:={z with k:=z.k+1,e:=(bX (bY z.e.call FU) 1 ⟨z.e,s⟩).e,u:=(z.u.step s).2}
theorem Ub.step{i j:Nat}{s:St}{ys:List Px}(h:Ub i g s ys)(hi:i<=1000)(hj:j<ys.length)(hd:ys[j].e.done=false)(hok:Ok 50 (bX (bY ys[j].e.call FU) 1 ⟨ys[j].e,s⟩)):
  ((ys[j].u).step s).1=(bX (bY ys[j].e.call FU) 1 ⟨ys[j].e,s⟩).s/\∃g',Ub (i+1) g' (bX (bY ys[j].e.call FU) 1 ⟨ys[j].e,s⟩).s (ys.set j (ys[j].next s)):=by
 obtain⟨h1,h2,u',hE⟩:=h.ex _ (qR hj)
 obtain⟨g',v,v',e1,k2,w2,t2,f2,E2,l2,b2,b3⟩:=hE.step h.gw h.PI h.fit hd (by unfold Cx;omega) hok
 have hs:=h.size
 refine⟨by rw[e1],g',w2,t2,f2,?_,by omega⟩
 intro z m
 rcases List.mem_or_eq_of_mem_set m with m|rfl
 ·obtain⟨a,b,q,c⟩:=h.ex z m
  exact⟨a,by omega,q,c.ge h.gw k2⟩
 ·refine⟨by show (bX (bY ys[j].e.call FU) 1 ⟨ys[j].e,s⟩).e.eG.length=ys[j].k+1;rw[l2,h1],by show ys[j].k+1<=i+1;omega,v',?_⟩
  show Er g' _ ((ys[j].u).step s).2 v'
  rw[e1];exact E2
theorem Ub.add{i tb xb:Nat}{s:St}{ys:List Px}{c:Call}(h:Ub i g s ys)(hs:s.size+1000<=38000000000)(hc:kZ g c)(hm:c.aI<18446744073709551616)(hk:c.key.size<=9223372036854775807)(hok:Ok 50 (bX (bY c FU) 0 ⟨{call:=c},s⟩)):
  ∃g' u,(mS c FU).head s=((bX (bY c FU) 0 ⟨{call:=c},s⟩).s,u)/\Ge g g'/\(bX (bY c FU) 0 ⟨{call:=c},s⟩).s.size<=s.size+120/\Ub i g' (bX (bY c FU) 0 ⟨{call:=c},s⟩).s (ys++[{tb:=tb,xb:=xb,e:=(bX (bY c FU) 0 ⟨{call:=c},s⟩).e,u:=u}]):=by
 obtain⟨g',u,u',h1,h2,h3,h4,h5,h6,h7,h8,h9,h10⟩:=Er.start h.gw h.PI h.fit hc hm hk hok
 refine⟨g',u,h1,h2,h8,h3,h4,h5,?_,by omega⟩
 intro z m
 rcases List.mem_append.1 m with m|m
 ·obtain⟨a,b,q,c'⟩:=h.ex z m
  exact⟨a,b,q,c'.ge h.gw h2⟩
 ·rw[List.mem_singleton.1 m]
  exact⟨by show (bX (bY c FU) 0 ⟨{call:=c},s⟩).e.eG.length=0;rw[h7];rfl,Xe _,u',h6⟩
theorem nZ.acc{s:St}(h:nZ g s)(a:Nat):nZ g {s with acc:=a}:=⟨h.nodes,h.gen,h.len,h.holds,h.dec,h.SQ⟩
theorem Lc.M7{s:St}{ts:List bC}{zs:List (Nat×Ex)}(h:Lc 36 g s ts zs):Ub 0 g {s with acc:=0} []/\({s with acc:=0}:St).size+500<=37100000000:=by
 have hs:=h.size
 have:({s with acc:=0}:St).size<=s.size:=by unfold St.size;dsimp only;omega
 exact⟨⟨h.gw,h.PI.acc 0,h.fit,(λz m=>by cases m),by omega⟩,by omega⟩
end Go.Ct
end
section
namespace Go.Ct
theorem Ok.dR{j:Nat}{x:X}(h:Ok j x):x.s.size<=100000000000:=by have:=h.zP;unfold X.size cN at this;omega
end Go.Ct
namespace Go.Q9
open Go.Proofs.Tryz
open Go.RowKit Go.E
attribute [local irreducible] gB wpS Go.E.X XS C jU kP fin Y U F Ca jT bl rb aU bV ex ce pu sK gK bK zK
variable{B w:World}{L:List As}
theorem mU(xb mb:Nat)(x:Ct.X)(c:Int)(h:SH B w (XA xb mb x::L))(k:Ct.Ok 0 x):
  Calls prog 115 #[↑xb,↑c] w λe w'=>∃y v,Ct.dY c x=Ct.out y v/\e=.returned (.int .i64 v)/\SH B w' (XA xb mb y::L)/\Ct.Ok 90 y:=by
 have key:∀{e:Ending} {w':World},(∃y v,Ct.dY c x=Ct.out y v/\e=.returned (.int .i64 v)/\SH B w' (XA xb mb y::L))->∃y v,Ct.dY c x=Ct.out y v/\e=.returned (.int .i64 v)/\SH B w' (XA xb mb y::L)/\Ct.Ok 90 y:=
  λ⟨y,v,q,e,h⟩=>⟨y,v,q,e,h,(Ct.Gm k q).1.less (by omega)⟩
 cases hs:x.e.aC with
 |true=>exact(Uz xb mb x c h k hs).mono λ_ _=>key
 |false=>
  by_cases ha:x.e.a<x.e.eG.length
  ·exact(Zg xb mb x c h k hs ha).mono λ_ _=>key
  ·by_cases hf:x.e.free=0
   ·exact(Xt xb mb x c h k hs ha hf).mono λ_ _=>key
   ·exact(Ux xb mb x c h k hs ha hf).mono λ_ _=>key
theorem nQ(xb mb:Nat)(x:Ct.X)(c o n:Int)(h:SH B w (XA xb mb x::L))(k:Ct.Ok 0 x):
  Calls prog 117 #[↑xb,↑c,↑o,↑n] w λe w'=>∃y v,Ct.iB c o n x=Ct.out y v/\e=.returned (.bool v)/\SH B w' (XA xb mb y::L)/\Ct.Ok 90 y:=by
 have key:∀{e:Ending} {w':World},(∃y v,Ct.iB c o n x=Ct.out y v/\e=.returned (.bool v)/\SH B w' (XA xb mb y::L))->∃y v,Ct.iB c o n x=Ct.out y v/\e=.returned (.bool v)/\SH B w' (XA xb mb y::L)/\Ct.Ok 90 y:=
  λ⟨y,v,q,e,h⟩=>⟨y,v,q,e,h,(Ct.DS k q).1.less (by omega)⟩
 cases hs:x.e.aC with
 |true=>exact(BQ xb mb x c o n h k hs).mono λ_ _=>key
 |false=>
  by_cases ha:x.e.a<x.e.eG.length
  ·exact(BT xb mb x c o n h k hs ha).mono λ_ _=>key
  ·by_cases hf:x.e.free=0
   ·exact(AX xb mb x c o n h k hs ha hf).mono λ_ _=>key
   ·exact(DD xb mb x c o n h k hs ha hf).mono λ_ _=>key
theorem dS{j:Nat}(xb mb:Nat)(x:Ct.X)(n:Ct.Node)(p:Lq)(i:Int)(h:SH B w (aM n p::XA xb mb x::L))(k:Ct.Ok (j+1) x)(hn:n.Fit (x.s.aG.length+1)):
  Calls prog 120 #[↑xb,.agg (aL n p).toArray,↑i] w λe w'=>∃y v,Ct.dB n i x=Ct.out y v/\e=.returned (.int .i64 v)/\SH B w' (XA xb mb y::L)/\Ct.Ok j y/\x.s.aG.length<=y.s.aG.length:=by
 have key:∀{e:Ending} {w':World},(∃y v,Ct.dB n i x=Ct.out y v/\e=.returned (.int .i64 v)/\SH B w' (XA xb mb y::L))->∃y v,Ct.dB n i x=Ct.out y v/\e=.returned (.int .i64 v)/\SH B w' (XA xb mb y::L)/\Ct.Ok j y/\x.s.aG.length<=y.s.aG.length:=
  λ⟨y,v,q,e,h⟩=>⟨y,v,q,e,h,(Ct.Kz k hn q).1,(Ct.Kz k hn q).2.1⟩
 have k0:=k.less (Xe _)
 cases hs:x.e.aC with
 |true=>exact(Qq xb mb x n p i h k0 hs hn).mono λ_ _=>key
 |false=>
  by_cases hm:x.e.m=x.e.made.length
  ·exact(Sf xb mb x n p i h k0 hs hm hn).mono λ_ _=>key
  ·exact(Rr xb mb x n p i h k0 hs (by have:=k.m;omega) hn).mono λ_ _=>key
theorem AL{j:Nat}(xb mb:Nat)(x:Ct.X)(i:Int)(h:SH B w (XA xb mb x::L))(k:Ct.Ok (j+1) x):
  Calls prog 134 #[↑xb,↑i] w λe w'=>∃y v,Ct.fE i x=Ct.out y v/\e=.returned (.int .i64 v)/\SH B w' (XA xb mb y::L)/\Ct.Ok j y:=by
 have key:∀{e:Ending} {w':World},(∃y v,Ct.fE i x=Ct.out y v/\e=.returned (.int .i64 v)/\SH B w' (XA xb mb y::L))->∃y v,Ct.fE i x=Ct.out y v/\e=.returned (.int .i64 v)/\SH B w' (XA xb mb y::L)/\Ct.Ok j y:=
  λ⟨y,v,q,e,h⟩=>⟨y,v,q,e,h,(Ct.FQ k q).1⟩
 have k0:=k.less (Xe _)
 cases hs:x.e.aC with
 |true=>exact(Ue xb mb x i h k0 hs).mono λ_ _=>key
 |false=>
  by_cases hm:x.e.c=x.e.cells.length
  ·exact(Xg xb mb x i h k0 hs hm).mono λ_ _=>key
  ·exact(Us xb mb x i h k0 hs (by have:=k.c;omega)).mono λ_ _=>key
theorem MG{j:Nat}(xb mb:Nat)(x:Ct.X)(h:SH B w (XA xb mb x::L))(k:Ct.Ok (j+1) x):
  Calls prog 136 #[↑xb] w λe w'=>∃y v,Ct.iH x=Ct.out y v/\e=.returned (.int .i64 v)/\SH B w' (XA xb mb y::L)/\Ct.Ok j y:=by
 have key:∀{e:Ending} {w':World},(∃y v,Ct.iH x=Ct.out y v/\e=.returned (.int .i64 v)/\SH B w' (XA xb mb y::L))->∃y v,Ct.iH x=Ct.out y v/\e=.returned (.int .i64 v)/\SH B w' (XA xb mb y::L)/\Ct.Ok j y:=
  λ⟨y,v,q,e,h⟩=>⟨y,v,q,e,h,(Ct.QL k q).1⟩
 have k0:=k.less (Xe _)
 cases hs:x.e.aC with
 |true=>exact(CT xb mb x h k0 hs).mono λ_ _=>key
 |false=>
  by_cases hm:x.e.g=x.e.dG.length
  ·exact(CQ xb mb x h k0 hs hm).mono λ_ _=>key
  ·exact(CJ xb mb x h k0 hs (by have:=k.g;omega)).mono λ_ _=>key
theorem Sj(n:Ct.Node)(q:Lq)(h:SH B w (L)):
  Calls prog 150 #[.agg (aL n q).toArray] w λe w'=>e=.returned ↑n.bM/\SH B w' L:=by
 refine bZ func150 ntmps150 h λw h=>?_
 refine jX h λb1 w h=>?_
 refine qg h (λhd2 w h=>?_) λhd2 w h=>?_
 have hg3:=eq_of_beq hd2
 refine go h λw h=>?_
 refine rz ?_
 exact⟨by unfold Ct.Node.bM;simp[hd2],h.drop⟩
 have hg4:=Pe hd2
 refine go h λw h=>?_
 refine qg h (λhd5 w h=>?_) λhd5 w h=>?_
 have hg6:=eq_of_beq hd5
 refine go h λw h=>?_
 refine rz ?_
 exact⟨by unfold Ct.Node.bM;simp[hd2,hd5],h.drop⟩
 have hg7:=Pe hd5
 refine go h λw h=>?_
 refine rz ?_
 exact⟨by unfold Ct.Node.bM;simp[hd2,hd5],h.drop⟩
theorem pC(xb mb:Nat)(x:Ct.X)(v s:Int)(h:SH B w (XA xb mb x::L)){j:Nat}(k:Ct.Ok j x):
  Calls prog 119 #[↑xb,↑v,↑s] w λe w'=>∃u,Ct.aX (Ct.wR v s) x=Ct.out x u/\e=.returned (.int .i64 u)/\SH B w' (XA xb mb x::L):=by
 refine bZ func119 ntmps119 h λw h=>?_
 refine qc h (λhd1 w h=>?_) λhd1 w h=>?_
 have hg2:=eq_of_beq hd1
 refine go h λw h=>?_
 refine cG (aN _ _ _ _ h.to k.dR) λp3 w h=>?_
 have h:=h.drop
 refine go h λw h=>?_
 exact rz ⟨_,Ct.rT hd1<|Ct.rN<|Ct.rR,rfl,h⟩
 have hg4:=Pe hd1
 refine go h λw h=>?_
 refine cG (aN _ _ _ _ h.to k.dR) λp5 w h=>?_
 have h:=h.drop
 refine go h λw h=>?_
 exact rz ⟨_,Ct.rF hd1<|Ct.rN<|Ct.rR,rfl,h⟩
theorem PW(xb mb:Nat)(x:Ct.X)(t:Ct.bC)(h:SH B w (XA xb mb x::L))(k:Ct.Ok 30 x):
  Calls prog 151 #[↑xb,.agg (cU t).toArray] w λe w'=>∃y v,Ct.aX (Ct.GS t) x=Ct.out y v/\e=.returned (.int .i64 v)/\SH B w' (XA xb mb y::L)/\Ct.Ok 60 y:=by
 refine bZ func151 ntmps151 h λw h=>?_
 refine jX h λb1 w h=>?_
 refine dE (mU _ _ _ _ h.to (k.less (by omega))) λy2 v3 q4 w h k=>?_
 refine st (ld (v:=.bool y2.e.aC) One.h rfl (h.xc a0 λ_=>rfl))<|go h λw h=>?_
 refine qg h (λhd5 w h=>?_) λhd5 w h=>?_
 exact rz ⟨_,_,Ct.rL q4<|Ct.rS hd5,rfl,h.to,(k.stop hd5)⟩
 refine cG (aN _ _ _ _ h.to k.dR) λp6 w h=>?_
 have h:=h.drop
 refine qc h (λhd7 w h=>?_) λhd7 w h=>?_
 exact rz ⟨_,_,Ct.rL q4<|Ct.rN<|Ct.rT hd7<|Ct.rR,rfl,h.to,(k.less (by omega))⟩
 refine cG (aN _ _ _ _ h.to k.dR) λp10 w h=>?_
 have h:=h.drop
 refine dE (mU _ _ _ _ h.to (k.less (by omega))) λy11 v12 q13 w h k=>?_
 refine qc h (λhd14 w h=>?_) λhd14 w h=>?_
 refine cG (aN _ _ _ _ h.to k.dR) λp16 w h=>?_
 have h:=h.drop
 refine dE (nQ _ _ _ _ _ _ h.to (k.less (by omega))) λy17 v18 q19 w h k=>?_
 refine cG (aN _ _ _ _ h.to k.dR) λp20 w h=>?_
 have h:=h.drop
 refine dE (mU _ _ _ _ h.to (k.less (by omega))) λy21 v22 q23 w h k=>?_
 refine Pv (pC _ _ _ _ _ h.to k) λv24 q25 w h=>?_
 refine dE (nQ _ _ _ _ _ _ h.to (k.less (by omega))) λy26 v27 q28 w h k=>?_
 exact rz ⟨_,_,Ct.rL q4<|Ct.rN<|Ct.rF hd7<|Ct.rN<|Ct.rL q13<|Ct.rT hd14<|Ct.rN<|Ct.rC q19<|Ct.rN<|Ct.rL q23<|Ct.rB q25<|Ct.rC q28<|Ct.rR,rfl,h.to,(k.less (by omega))⟩
 refine Pv (pC _ _ _ _ _ h.to k) λv30 q31 w h=>?_
 refine dE (nQ _ _ _ _ _ _ h.to (k.less (by omega))) λy32 v33 q34 w h k=>?_
 exact rz ⟨_,_,Ct.rL q4<|Ct.rN<|Ct.rF hd7<|Ct.rN<|Ct.rL q13<|Ct.rF hd14<|Ct.rB q31<|Ct.rC q34<|Ct.rR,rfl,h.to,(k.less (by omega))⟩
end Go.Q9
end
