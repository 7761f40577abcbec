/- Parts of a proof: Wp. -/
import Derived.Test.YtnhdmcipglnkfaaGreatW24
set_option linter.unusedVariables false
set_option linter.unusedSimpArgs false
set_option maxRecDepth 100000
set_option maxHeartbeats 4000000
section
namespace Go.Ct
variable{g:Ga}
def X.wt(x:X):Nat:=x.e.eV.length+2*x.e.made.length+x.e.cells.length+x.e.dU.length
def Of(x y:X):Prop:=y.s.size+x.wt<=x.s.size+y.wt
theorem Of.refl(x:X):Of x x:=aW _
theorem Of.trans{x y z:X}(h:Of x y)(k:Of y z):Of x z:=by unfold Of at *;omega
theorem CK(s:St)(i:Int):(s.aT i).1.size=s.size+1:=by unfold St.aT St.size;simp;omega
theorem FK(s:St):s.bL.1.size=s.size+1:=by unfold St.bL St.size;simp;omega
theorem UP{c:Int}{x y:X}{o:Option Int}(h:eK c x=(y,o)):Of x y:=by
 unfold eK qO vR mB at h;repeat' split at h
 all_goals (cases h;unfold Of X.wt;try dsimp only)
 all_goals first
  |exact aW _
  |(rw[cV,fR];have:=(St.Bi x.s c).1;omega)
theorem w7{c a n:Int}{x y:X}{o:Option Bool}(h:jT c a n x=(y,o)):Of x y:=by
 unfold jT qO vR mB at h;repeat' split at h
 all_goals (cases h;unfold Of X.wt;try dsimp only)
 all_goals first
  |exact aW _
  |(rw[cV,fR];have:=(St.zX x.s c a n).1;omega)
theorem NT{n:Node}{i:Int}{x y:X}{o:Option Int}(h:dE n i x=(y,o)):Of x y:=by
 unfold dE at h;repeat' split at h
 all_goals (cases h;unfold Of X.wt;try dsimp only)
 all_goals first
  |exact aW _
  |(rw[cV,fR];have:=(St.mM x.s n i).1;omega)
theorem UF{i:Int}{x y:X}{o:Option Int}(h:fU i x=(y,o)):Of x y:=by
 unfold fU at h;repeat' split at h
 all_goals (cases h;unfold Of X.wt;try dsimp only)
 all_goals first
  |exact aW _
  |(rw[cV,fR];have:=CK x.s i;omega)
theorem D6{x y:X}{o:Option Int}(h:kN x=(y,o)):Of x y:=by
 unfold kN at h;repeat' split at h
 all_goals (cases h;unfold Of X.wt;try dsimp only)
 all_goals first
  |exact aW _
  |(rw[cV,fR];have:=FK x.s;omega)
theorem yY{α β:Type}{r:X×Option α}{f:α->X->X×Option β}{x y:X}{o:Option β}(hr:∀z o,r=(z,o)->Of x z)(hf:∀v z o,f v z=(y,o)->Of z y)(h:kS r f=(y,o)):Of x y:=by
 obtain⟨z,p⟩:=r
 cases p with
 |none=>cases h;exact hr _ _ rfl
 |some v=>exact(hr _ _ rfl).trans (hf v z o h)
theorem tG{α:Type}:∀{t:I α} {x y:X} {o:Option α},bC t x=(y,o)->Of x y
 |.ret a,x,y,o,h=>by unfold bC at h;split at h<;>(cases h;exact Of.refl _)
 |.load c k,x,y,o,h=>yY (λ_ _=>UP) (λv z o h=>tG h) h
 |.cH c a n k,x,y,o,h=>yY (λ_ _=>w7) (λv z o h=>tG h) h
 |.alloc n i k,x,y,o,h=>yY (λ_ _=>NT) (λv z o h=>tG h) h
 |.cell i k,x,y,o,h=>yY (λ_ _=>UF) (λv z o h=>tG h) h
 |.gen k,x,y,o,h=>yY (λ_ _=>D6) (λv z o h=>tG h) h
 |.node r k,x,y,o,h=>by unfold bC at h;exact tG h
theorem Be(T:I Result)(free:Nat)(x:X):(cC T free x).s.size+x.wt<=x.s.size+(cC T free x).wt:=by
 have h:=tG (t:=T) (x:=cE free x) (y:=(bC T (cE free x)).1) (o:=(bC T (cE free x)).2) rfl
 have e:(cE free x).wt=x.wt/\(cE free x).s=x.s:=⟨rfl,rfl⟩
 unfold Of at h
 rw[e.1,e.2]at h
 unfold cC WY
 split<;>exact h
theorem Pj(T:I Result)(free:Nat)(x:X):(cC T free x).e.call=x.e.call:=by
 have h:=oM (t:=T) (x:=cE free x) (y:=(bC T (cE free x)).1) (o:=(bC T (cE free x)).2) rfl
 unfold cC WY
 split<;>exact h
def FU:Nat:=100000000
def Jp:Nat:=2000000
structure Er(g:Ga)(e:Ex)(u u':I Result):Prop where
 ok:nQ g e.call
 aI:e.call.aI<18446744073709551616
 key:e.call.key.size<=9223372036854775807
 sh:Sh u u' g
 rest:Rest (cA e.call FU) u' g e
 made:∀r∈e.made,1<=r/\r<=200000000000
 xT:e.eV.length<=Jp
theorem Er.ge{g':Ga}{e:Ex}{u u':I Result}(h:Er g e u u')(hw:GW g)(k:Ge g g'):Er g' e u u':=⟨h.ok.ge k,h.aI,h.key,h.sh.ge k hw,h.rest.ge k,h.made,h.xT⟩
theorem oS.aDf{s:St}(h:oS g s)(hf:cL s):w5 g:=by unfold w5;rw[<- h.nodes];exact hf
theorem Zg{c:Call}(hk:c.kind=8)(h:refused c=0):c.key.size<=64:=Ah h (.inr (.inl hk))
theorem Er.J3{e:Ex}{u u':I Result}(h:Er g e u u')(hf:w5 g):e.made.length+e.cells.length+e.dU.length<=60+99*e.eV.length:=
 (VD e.call FU Zg).rp hf h.rest.rp λr hr=>(h.made r hr).1
theorem Er.result{e:Ex}{u u':I Result}(h:Er g e u u')(hd:e.done=true):e.result.aF.root<=0\/Tk g e.result.aF:=by
 have hu:u'.ended.isSome=true:=by rw[<- h.rest.done];exact hd
 have hs:=h.sh
 have hr:=h.rest.res
 cases hs with
 |ret a _ hq=>rw[hr a rfl];exact hq
 |load τ h1 h2=>cases hu
 |cH τ h1 hm h2=>cases hu
def room:Nat:=90000000000
theorem Er.ready{e:Ex}{s:St}{u u':I Result}(h:Er g e u u')(ht:oS g s)(hf:cL s)(hs:s.size<=room):Ok 60 (cE 1 ⟨e,s⟩)/\(cE 1 ⟨e,s⟩).left<FU:=by
 have hu:=h.J3 (ht.aDf hf)
 have hm:=h.xT
 unfold Jp at hm
 unfold room at hs
 have hl:(cE 1 ⟨e,s⟩).left=e.eV.length+1:=rfl
 have hz:(cE 1 ⟨e,s⟩).size=s.size+e.eV.length+e.made.length+e.cells.length+e.dU.length:=rfl
 refine⟨⟨hf,.inr ?_,?_,bZ _,bZ _,bZ _,bZ _,h.made,by show 1<=10;decide⟩,by rw[hl];unfold FU;omega⟩
 ·rw[hl,hz];unfold cW;omega
 ·rw[hz];unfold cW;omega
theorem Er.step{e:Ex}{s:St}{u u':I Result}(h:Er g e u u')(hw:GW g)(ht:oS g s)(hf:cL s)(hd:e.done=false)(hn:e.eV.length<Jp)(Tr:Ok 50 (cC (cA e.call FU) 1 ⟨e,s⟩)):
  ∃g' v v',u.step s=((cC (cA e.call FU) 1 ⟨e,s⟩).s,v)/\Ge g g'/\GW g'/\oS g' (cC (cA e.call FU) 1 ⟨e,s⟩).s/\cL (cC (cA e.call FU) 1 ⟨e,s⟩).s/\Er g' (cC (cA e.call FU) 1 ⟨e,s⟩).e v v'/\
   (cC (cA e.call FU) 1 ⟨e,s⟩).e.eV.length=e.eV.length+1/\(cC (cA e.call FU) 1 ⟨e,s⟩).s.size+(X.mk e s).wt<=s.size+(199*(e.eV.length+1)+120)/\(cC (cA e.call FU) 1 ⟨e,s⟩).wt<=199*(e.eV.length+1)+120/\∀P:Ga->I Result->Prop,Her P->P g u->P g' v:=by
 obtain⟨g',v,v',h1,h2,h3,h4,h5,h6,⟨a,h7⟩,hP⟩:=h.rest.step (x:=⟨e,s⟩) h.sh hw ht hd
 have hc:=Pj (cA e.call FU) 1 ⟨e,s⟩
 have hlen:(cC (cA e.call FU) 1 ⟨e,s⟩).e.eV.length=e.eV.length+1:=by rw[h7,cV];rfl
 have hE:Er g' (cC (cA e.call FU) 1 ⟨e,s⟩).e v v':=⟨by rw[hc];exact h.ok.ge h2,by rw[hc];exact h.aI,by rw[hc];exact h.key,h5,by rw[hc];exact h6,Tr.made,by rw[hlen];exact hn⟩
 have hu:=hE.J3 (h4.aDf Tr.fit)
 have hb:=Be (cA e.call FU) 1 ⟨e,s⟩
 have hes:(X.mk e s).s.size=s.size:=rfl
 have hwt:(cC (cA e.call FU) 1 ⟨e,s⟩).wt<=199*(e.eV.length+1)+120:=by unfold X.wt;omega
 exact⟨g',v,v',h1,h2,h3,h4,Tr.fit,hE,hlen,by omega,hwt,hP⟩
theorem zI{c:Call}{s:St}(hf:cL s)(hs:s.size<=room):Ok 60 (cE 0 ⟨{call:=c},s⟩)/\(cE 0 ⟨{call:=c},s⟩).left<FU:=by
 unfold room at hs
 have hz:(cE 0 ⟨{call:=c},s⟩).size=s.size:=rfl
 have hl:(cE 0 ⟨{call:=c},s⟩).left=0:=rfl
 refine⟨⟨hf,.inr ?_,?_,bZ _,bZ _,bZ _,bZ _,(λr hr=>by cases hr),by show 0<=10;decide⟩,by rw[hl];unfold FU;omega⟩
 ·rw[hl,hz];unfold cW;omega
 ·rw[hz];unfold cW;omega
theorem Er.start{c:Call}{s:St}(hw:GW g)(ht:oS g s)(hf:cL s)(hc:nQ g c)(hm:c.aI<18446744073709551616)(hk:c.key.size<=9223372036854775807)(Tr:Ok 50 (cC (cA c FU) 0 ⟨{call:=c},s⟩)):
  ∃g' u u',(jC c FU).head s=((cC (cA c FU) 0 ⟨{call:=c},s⟩).s,u)/\Ge g g'/\GW g'/\oS g' (cC (cA c FU) 0 ⟨{call:=c},s⟩).s/\cL (cC (cA c FU) 0 ⟨{call:=c},s⟩).s/\Er g' (cC (cA c FU) 0 ⟨{call:=c},s⟩).e u u'/\
   (cC (cA c FU) 0 ⟨{call:=c},s⟩).e.eV=[]/\(cC (cA c FU) 0 ⟨{call:=c},s⟩).s.size<=s.size+120/\(cC (cA c FU) 0 ⟨{call:=c},s⟩).wt<=120/\(cC (cA c FU) 0 ⟨{call:=c},s⟩).e.call=c/\∀P:Ga->I Result->Prop,Her P->P g (jC c FU)->P g' u:=by
 obtain⟨g',u,u',h1,h2,h3,h4,h5,h6,h7,hP⟩:=Rest.start (W9 (n:=FU) hw hc) hw (x:=⟨{call:=c},s⟩) ht rfl rfl rfl rfl rfl
 have hcc:=Pj (cA c FU) 0 ⟨{call:=c},s⟩
 have hE:Er g' (cC (cA c FU) 0 ⟨{call:=c},s⟩).e u u':=⟨by rw[hcc];exact hc.ge h2,by rw[hcc];exact hm,by rw[hcc];exact hk,h5,by rw[hcc];exact h6,Tr.made,by rw[h7];exact bZ _⟩
 have hu:=hE.J3 (h4.aDf Tr.fit)
 have hb:=Be (cA c FU) 0 ⟨{call:=c},s⟩
 rw[h7]at hu
 have hwt:(cC (cA c FU) 0 ⟨{call:=c},s⟩).wt<=120:=by unfold X.wt;rw[h7];simp at hu ⊢;omega
 refine⟨g',u,u',h1,h2,h3,h4,Tr.fit,hE,h7,?_,hwt,hcc,hP⟩
 have:(X.mk {call:=c} s).wt=0:=rfl
 rw[this]at hb
 show _<=(X.mk {call:=c} s).s.size+120
 omega
end Go.Ct
end
