/- Parts of a proof: Rw, Rv. -/
import Derived.Test.YtlijgnlhkcbgpaaGreatDoorW11
set_option linter.unusedVariables false
set_option linter.unusedSimpArgs false
set_option maxRecDepth 100000
set_option maxHeartbeats 4000000
section
namespace Go.Ct
abbrev fV:=Nat×Nat
def dO(b:fV)(i:Int):fV:=(b.1+1,b.2+i.toNat*64^b.1)
inductive eY where
 |root
 |fixed
 |main (b:fV)
 |prev (b:fV)
 |status
 deriving DecidableEq
structure Ga where
 nodes:List Node
 xT:List fV
 ty:List eY
 KZ:List Int
 gen:Nat
 dec:Int->Prop
def Ga.st(g:Ga):St:={aG:=g.nodes,gen:=g.gen}
def Ga.node(g:Ga)(r:Int):Node:=g.st.node r
def Ga.label(g:Ga)(r:Int):fV:=g.xT.getD (r.toNat-3) (0,0)
def Ga.count(g:Ga):Int:=2+g.nodes.length
def Ga.oA(g:Ga)(c:Int):Option eY:=if c<1 then none else g.ty[c.toNat-1]?
def Ga.first(g:Ga)(c:Int):Int:=g.KZ.getD (c.toNat-1) 0
def jV(g:Ga)(r:Int)(b:fV):Prop:=(g.node r).kind=2/\g.label r=b
def oH(g:Ga)(r:Int)(b:fV):Prop:=(g.node r).bM=true/\g.label r=b
def Dg(g:Ga)(r:Int)(b:fV):Prop:=(g.node r).kind=4/\(g.node r).hash%64^b.1=b.2
def ED(g:Ga)(r:Int)(b:fV):Prop:=(g.node r).kind=7/\g.label r=b
def Ed(g:Ga)(r:Int):Prop:=(g.node r).kind=8
def kB(g:Ga)(c v:Int):eY->Prop
 |.root=>jV g v (0,0)\/Ed g v
 |.fixed=>jV g v (0,0)
 |.main b=>oH g v b
 |.prev b=>v=0\/(ED g v b/\(g.node v).dC=g.first c)\/(v=g.first c/\oH g v b/\¬g.dec c)
 |.status=>v=0\/v=1\/v=2
def Val(g:Ga)(c v:Int):eY->Prop
 |.root=>jV g v (0,0)\/Ed g v
 |.fixed=>jV g v (0,0)
 |.main b=>oH g v b
 |.prev b=>(v=0/\g.dec (-c))\/(ED g v b/\(g.node v).dC=g.first c)\/(v=g.first c/\oH g v b/\¬g.dec c)
 |.status=>v=0\/v=1\/v=2
def Ul(g:Ga)(r:Int)(b:fV):Prop:=oH g r b/\g.dec (-(g.node r).prev)
def YI(g:Ga)(c o n:Int):eY->Prop
 |.root=>jV g n (0,0)\/Ed g n
 |.fixed=>False
 |.main b=>oH g n b
 |.prev b=>o≠0/\(n=0\/ED g n b/\(g.node n).dC=g.first c)
 |.status=>n=1\/n=2
structure cJ(g:Ga)(n:Node)(b:fV):Prop where
 valid:n.valid=true
 fit:∃L,n.Fit L
 lo:2<=n.kind
 hi:n.kind<=8
 i:n.kind=2->n.gen<=g.gen/\b.1<=11
 c:n.kind=3->b.1<=10/\b.2<64^b.1/\∀k,(aB n k).2=true->jV g (aB n k).1 (dO b k)\/Dg g (aB n k).1 (dO b k)
 t:n.kind=5->1<=b.1/\n.hash%64^b.1=b.2
 l:n.kind=6->b.1=11/\n.hash%64^b.1=b.2
 f:n.kind=7->oH g n.dC b
 d:n.kind=8->jV g n.dC (0,0)/\oH g n.aK (0,0)/\jV g n.new (0,0)
def Node.iA(n:Node)(b:fV):Option eY:=if n.kind=2 then some (.main b)else if n.bM=true then some (.prev b)else if n.kind=8 then some .status else none
def Node.cellOf(n:Node):Int:=n.main+n.prev+n.status
def Node.cA(n:Node):Bool:=n.kind==2||n.bM||n.kind==8
def Tb(g:Ga)(n:Node)(i:Int)(b:fV):Prop:=(n.kind=2->oH g i b)/\(n.bM=true->i=0\/Ul g i b)/\(n.kind=8->i=0)
def Ga.zip(g:Ga):List (Node×fV):=g.nodes.zip g.xT
structure GW(g:Ga):Prop where
 node:∀n∈g.zip,cJ g n.1 n.2
 cell:∀n∈g.zip,∀τ,n.1.iA n.2=some τ->g.oA n.1.cellOf=some τ
 main:∀n∈g.zip,n.1.kind=2->n.1.cellOf=n.1.main
 prev:∀n∈g.zip,n.1.bM=true->n.1.cellOf=n.1.prev
 status:∀n∈g.zip,n.1.kind=8->n.1.cellOf=n.1.status
 sort:(g.nodes.filter Node.cA).Pairwise λa b=>a.cellOf<b.cellOf
 len:g.KZ.length=g.ty.length
 xT:g.xT.length=g.nodes.length
 SQ:∀r b,oH g r b->g.first (g.node r).prev≠0->Ul g (g.first (g.node r).prev) b
structure Ge(g g':Ga):Prop where
 nodes:g.nodes<+:g'.nodes
 xT:g.xT<+:g'.xT
 ty:g.ty<+:g'.ty
 KZ:g.KZ<+:g'.KZ
 gen:g.gen<=g'.gen
 dec:∀c,g.dec c->g'.dec c
 eq:g.xT.length=g.nodes.length
theorem Ge.refl{g:Ga}(h:GW g):Ge g g:=⟨Qa _,Qa _,Qa _,Qa _,bD _,λ_ h=>h,h.xT⟩
theorem Ge.trans{a b c:Ga}(h:Ge a b)(k:Ge b c):Ge a c:=⟨h.nodes.trans k.nodes,h.xT.trans k.xT,h.ty.trans k.ty,h.KZ.trans k.KZ,lK h.gen k.gen,λc hc=>k.dec c (h.dec c hc),h.eq⟩
theorem zD{α:Type}{l l':List α}(h:l<+:l'){i:Nat}(hi:i<l.length)(d:α):l'.getD i d=l.getD i d:=by
 obtain⟨t,rfl⟩:=h
 rw[eX,eX,xD hi]
theorem pZ(g:Ga)(r:Int):g.node r=if r<1\/((2+g.nodes.length:Nat):Int)<r then{}else if r<=2 then gY else g.nodes.getD (r.toNat-3) {}:=rfl
theorem Ge.node{g g':Ga}(h:Ge g g'){r:Int}(hr:r<=g.count):g'.node r=g.node r:=by
 have hl:=h.nodes.length_le
 unfold Ga.count at hr
 rw[pZ,pZ]
 by_cases h1:r<1
 ·rw[if_pos (.inl h1),if_pos (.inl h1)]
 ·rw[if_neg (show ¬(r<1\/((2+g'.nodes.length:Nat):Int)<r) by omega),if_neg (show ¬(r<1\/((2+g.nodes.length:Nat):Int)<r) by omega)]
  by_cases h2:r<=2
  ·rw[if_pos h2,if_pos h2]
  ·rw[if_neg h2,if_neg h2]
   exact zD h.nodes (by omega) _
theorem Ge.label{g g':Ga}(h:Ge g g'){r:Int}(hr:r<=g.count)(h3:3<=r):g'.label r=g.label r:=by
 unfold Ga.count at hr
 unfold Ga.label
 exact zD h.xT (by rw[h.eq];omega) _
theorem IZ{g:Ga}{r:Int}(h:g.count<r):g.node r={}:=by
 unfold Ga.count at h
 rw[pZ,if_pos (.inr (by omega))]
theorem kI{g:Ga}{r:Int}(h:(g.node r).kind≠0):r<=g.count:=by
 rcases Int.lt_or_le g.count r with h1|h1
 ·rw[IZ h1]at h;exact absurd rfl h
 ·exact h1
theorem uA{g:Ga}{r:Int}(h:(g.node r).kind≠0):1<=r:=by
 rcases Int.lt_or_le r 1 with h1|h1
 ·rw[pZ,if_pos (.inl h1)]at h;exact absurd rfl h
 ·exact h1
theorem sV{g:Ga}{r:Int}(h:2<=(g.node r).kind):3<=r:=by
 have h0:=uA (g:=g) (r:=r) (by omega)
 have h1:=kI (g:=g) (r:=r) (by omega)
 unfold Ga.count at h1
 rw[pZ,if_neg (by omega)]at h
 by_cases h2:r<=2
 ·rw[if_pos h2]at h;exact absurd h (by decide)
 ·omega
theorem sH{g:Ga}{r:Int}{b:fV}(h:oH g r b):(g.node r).kind=3\/(g.node r).kind=5\/(g.node r).kind=6:=by
 have:=h.1;unfold Node.bM at this;simpa[or_assoc]using this
theorem jV.dU{g:Ga}{r:Int}{b:fV}(h:jV g r b):r<=g.count:=kI (by rw[h.1];decide)
theorem Dg.dU{g:Ga}{r:Int}{b:fV}(h:Dg g r b):r<=g.count:=kI (by rw[h.1];decide)
theorem ED.dU{g:Ga}{r:Int}{b:fV}(h:ED g r b):r<=g.count:=kI (by rw[h.1];decide)
theorem Ed.dU{g:Ga}{r:Int}(h:Ed g r):r<=g.count:=kI (by rw[show (g.node r).kind=8 from h];decide)
theorem oH.dU{g:Ga}{r:Int}{b:fV}(h:oH g r b):r<=g.count:=kI (by rcases sH h with h|h|h<;>rw[h]<;>decide)
theorem oH.two{g:Ga}{r:Int}{b:fV}(h:oH g r b):2<=(g.node r).kind:=by rcases sH h with h|h|h<;>rw[h]<;>decide
theorem jV.ge{g g':Ga}{r:Int}{b:fV}(h:jV g r b)(k:Ge g g'):jV g' r b:=by
 unfold jV;rw[k.node h.dU,k.label h.dU (sV (by rw[h.1];decide))];exact h
theorem Dg.ge{g g':Ga}{r:Int}{b:fV}(h:Dg g r b)(k:Ge g g'):Dg g' r b:=by unfold Dg;rw[k.node h.dU];exact h
theorem ED.ge{g g':Ga}{r:Int}{b:fV}(h:ED g r b)(k:Ge g g'):ED g' r b:=by
 unfold ED;rw[k.node h.dU,k.label h.dU (sV (by rw[h.1];decide))];exact h
theorem Ed.ge{g g':Ga}{r:Int}(h:Ed g r)(k:Ge g g'):Ed g' r:=by unfold Ed at *;rw[k.node (Ed.dU h)];exact h
theorem oH.ge{g g':Ga}{r:Int}{b:fV}(h:oH g r b)(k:Ge g g'):oH g' r b:=by
 unfold oH;rw[k.node h.dU,k.label h.dU (sV h.two)];exact h
theorem Ul.m{g:Ga}{r:Int}{b:fV}(h:Ul g r b):oH g r b:=h.1
instance {g:Ga}{r:Int}{b:fV}:CoeOut (Ul g r b) (oH g r b):=⟨λh=>h.1⟩
theorem Ul.dU{g:Ga}{r:Int}{b:fV}(h:Ul g r b):r<=g.count:=h.1.dU
theorem Ul.ge{g g':Ga}{r:Int}{b:fV}(h:Ul g r b)(k:Ge g g'):Ul g' r b:=⟨h.1.ge k,by rw[k.node h.1.dU];exact k.dec _ h.2⟩
theorem Ge.oA{g g':Ga}(h:Ge g g'){c:Int}{τ:eY}(hc:g.oA c=some τ):g'.oA c=some τ:=by
 unfold Ga.oA at hc ⊢
 split at hc
 ·cases hc
 ·rename_i h1
  rw[if_neg h1]
  obtain⟨t,ht⟩:=h.ty
  rw[<- ht,xD (List.getElem?_eq_some_iff.1 hc).1];exact hc
theorem Ge.first{g g':Ga}(h:Ge g g')(hw:GW g){c:Int}{τ:eY}(hc:g.oA c=some τ):g'.first c=g.first c:=by
 unfold Ga.oA at hc
 split at hc
 ·cases hc
 ·have:=(List.getElem?_eq_some_iff.1 hc).1
  exact zD h.KZ (by rw[hw.len];exact this) _
theorem Bb{g:Ga}(hw:GW g){r:Int}(h:2<=(g.node r).kind):(g.node r,g.label r)∈g.zip:=by
 have h0:=sV (g:=g) (r:=r) h
 have h1:=kI (g:=g) (r:=r) (by omega)
 have hl:=hw.xT
 unfold Ga.count at h1
 rw[pZ,if_neg (by omega),if_neg (by omega),eX,fM (by omega)]
 unfold Ga.label Ga.zip
 rw[eX,fM (by omega)]
 have hz:r.toNat-3<(g.nodes.zip g.xT).length:=by rw[List.length_zip];omega
 have:=qR hz
 rw[List.getElem_zip]at this
 exact this
theorem GW.of{g:Ga}(h:GW g){r:Int}(hr:2<=(g.node r).kind):cJ g (g.node r) (g.label r):=h.node _ (Bb h hr)
theorem GW.YW{g:Ga}(h:GW g){r:Int}{b:fV}(hr:jV g r b):cJ g (g.node r) b:=by rw[<- hr.2];exact h.of (by rw[hr.1];decide)
theorem GW.ofM{g:Ga}(h:GW g){r:Int}{b:fV}(hr:oH g r b):cJ g (g.node r) b:=by rw[<- hr.2];exact h.of hr.two
theorem GW.K4{g:Ga}(h:GW g){r:Int}{b:fV}(hr:ED g r b):cJ g (g.node r) b:=by rw[<- hr.2];exact h.of (by rw[hr.1];decide)
theorem GW.G4{g:Ga}(h:GW g){r:Int}(hr:Ed g r):cJ g (g.node r) (g.label r):=h.of (by rw[show (g.node r).kind=8 from hr];decide)
theorem GW.D2{g:Ga}(h:GW g){r:Int}{b:fV}(hr:Dg g r b):cJ g (g.node r) (g.label r):=h.of (by rw[hr.1];decide)
theorem GW.MO{g:Ga}(h:GW g){r:Int}{b:fV}(hr:jV g r b):g.oA (g.node r).main=some (.main b):=by
 have hm:=Bb h (r:=r) (by rw[hr.1];decide)
 have:=h.cell _ hm (.main b) (by unfold Node.iA;rw[if_pos hr.1,hr.2])
 rwa [h.main _ hm hr.1]at this
theorem GW.Nl{g:Ga}(h:GW g){r:Int}{b:fV}(hr:oH g r b):g.oA (g.node r).prev=some (.prev b):=by
 have hk:=sH hr
 have hm:=Bb h (r:=r) hr.two
 have:=h.cell _ hm (.prev b) (by unfold Node.iA;rw[if_neg (by show ¬(g.node r).kind=2;omega),if_pos hr.1,hr.2])
 rwa [h.prev _ hm hr.1]at this
theorem GW.Dt{g:Ga}(h:GW g){r:Int}(hr:Ed g r):g.oA (g.node r).status=some .status:=by
 have hk:(g.node r).kind=8:=hr
 have hm:=Bb h (r:=r) (by omega)
 have:=h.cell _ hm .status (by unfold Node.iA Node.bM;rw[if_neg (by show ¬(g.node r).kind=2;omega),if_neg (by show ¬_;rw[hk];decide),if_pos hk])
 rwa [h.status _ hm hk]at this
def Tk(g:Ga)(t:bC):Prop:=g.oA t.root=some (bif t.readOnly then .fixed else .root)
theorem Tk.ge{g g':Ga}{t:bC}(h:Tk g t)(k:Ge g g'):Tk g' t:=k.oA h
theorem Tk.root{g:Ga}{t:bC}(h:Tk g t)(hr:t.readOnly=false):g.oA t.root=some .root:=by unfold Tk at h;rw[hr]at h;exact h
theorem Tk.fixed{g:Ga}{t:bC}(h:Tk g t)(hr:t.readOnly=true):g.oA t.root=some .fixed:=by unfold Tk at h;rw[hr]at h;exact h
def Ga.cell(g:Ga)(τ:eY)(i:Int):Ga:={g with ty:=g.ty++[τ],KZ:=g.KZ++[i]}
def Ga.put(g:Ga)(n:Node)(b:fV):Ga:={g with nodes:=g.nodes++[n],xT:=g.xT++[b]}
def Ga.alloc(g:Ga)(n:Node)(i:Int)(b:fV):Ga:=
 if n.kind=2 then(g.cell (.main b) i).put {n.bare with main:=(g.ty.length:Int)+1} b
 else if n.bM=true then(g.cell (.prev b) i).put {n.bare with prev:=(g.ty.length:Int)+1} b
 else if n.kind=8 then(g.cell .status i).put {n.bare with status:=(g.ty.length:Int)+1} b
 else g.put n.bare b
def Ga.bS(g:Ga):Ga:={g with gen:=g.gen+1}
theorem zI{n:Node}(h:n.valid=true):n.bare.valid=true:=by
 unfold Node.valid at h ⊢
 simp only[Node.bare,Node.only,fT]at h ⊢
 simp at h ⊢
 repeat' split at h
 all_goals simp_all
end Go.Ct
end
section
namespace Go.Ct
theorem Vt{a b:ByteArray}(h:bR a b=true):a=b:=by
 unfold bR at h
 rw[toList_data,toList_data,wB]at h
 exact ByteArray.ext (Array.toList_inj.1 h)
theorem Hj:∀{a b:List bN},mJ a b=true->a=b
 |[],[],_=>rfl
 |[],_::_,h=>by cases h
 |_::_,[],h=>by cases h
 |x::a,y::b,h=>by
  rw[mJ,mQ]at h
  have h1:=h.1
  unfold AP at h1
  rw[mQ,wB]at h1
  rw[Hj h.2]
  congr 1
  cases x;cases y
  simp only at h1
  rw[Vt h1.1,h1.2]
theorem KM{a b:Node}(h:fT a b=true):a=b:=by
 unfold fT at h
 simp only[mQ,wB]at h
 obtain⟨⟨⟨⟨⟨⟨⟨h1,h2⟩,h3⟩,h4⟩,h5⟩,h6⟩,h7⟩,h8,h9,h10,h11,h12,h13,h14⟩:=h
 have h6:=Vt h6
 have h9:=Hj h9
 cases a;cases b
 simp only at *
 subst h1 h2 h3 h4 h5 h6 h7 h8 h9 h10 h11 h12 h13 h14
 rfl
theorem tG{n:Node}(h:n.valid=true):n=n.only:=by
 unfold Node.valid at h
 split at h
 ·cases h
 ·rename_i hc
  simp only[not_or,sX]at hc
  exact KM hc.2.2.1
theorem nF{n:Node}(h:n.valid=true):1<=n.kind/\n.kind<=8:=by
 unfold Node.valid at h
 split at h
 ·cases h
 ·rename_i hc;omega
def Node.stored(n:Node)(c:Int):Node:=
 if n.kind=2 then{n.bare with main:=c}else if n.bM=true then{n.bare with prev:=c}else if n.kind=8 then{n.bare with status:=c}else n.bare
theorem dX(n:Node)(c:Int):(n.stored c).kind=n.kind:=by
  unfold Node.stored;repeat' split
  all_goals rfl
theorem Ah{n:Node}(h:n.valid=true){c:Int}(hc:0<=c):(n.stored c).valid=true:=by
 have hk:=nF h
 rcases(show n.kind=1\/n.kind=2\/n.kind=3\/n.kind=4\/n.kind=5\/n.kind=6\/n.kind=7\/n.kind=8 by omega)with hk|hk|hk|hk|hk|hk|hk|hk
 ·rw[show n.stored c=n.bare by unfold Node.stored Node.bM;simp[hk]];exact zI h
 ·rw[show n.stored c={n.bare with main:=c} by unfold Node.stored;simp[hk]]
  unfold Node.valid at h ⊢
  simp only[Node.bare,Node.only,fT,hk]at h ⊢
  simp at h ⊢
  simp_all
 ·rw[show n.stored c={n.bare with prev:=c} by unfold Node.stored Node.bM;simp[hk]];exact yJ n c hc (.inl hk) h
 ·rw[show n.stored c=n.bare by unfold Node.stored Node.bM;simp[hk]];exact zI h
 ·rw[show n.stored c={n.bare with prev:=c} by unfold Node.stored Node.bM;simp[hk]]
  unfold Node.valid at h ⊢
  simp only[Node.bare,Node.only,fT,hk]at h ⊢
  simp at h ⊢
  simp_all
 ·rw[show n.stored c={n.bare with prev:=c} by unfold Node.stored Node.bM;simp[hk]];exact yJ n c hc (.inr hk) h
 ·rw[show n.stored c=n.bare by unfold Node.stored Node.bM;simp[hk]];exact zI h
 ·rw[show n.stored c={n.bare with status:=c} by unfold Node.stored Node.bM;simp[hk]]
  unfold Node.valid at h ⊢
  simp only[Node.bare,Node.only,fT,hk]at h ⊢
  simp at h ⊢
  simp_all
theorem BY{L:Nat}{n:Node}(h:n.Fit L){c:Int}(hc:0<=c):(n.stored c).Fit L:=by
 have:=Ie h c hc
 unfold Node.stored;simpa using this
theorem iQ(g:Ga)(n:Node)(i:Int)(b:fV):(g.alloc n i b).nodes=g.nodes++[n.stored (g.ty.length+1)]:=by
 unfold Ga.alloc Node.stored
 repeat' split
 all_goals rfl
theorem wE(g:Ga)(n:Node)(i:Int)(b:fV):(g.alloc n i b).xT=g.xT++[b]:=by
 unfold Ga.alloc
 repeat' split
 all_goals rfl
theorem mH(g:Ga)(n:Node)(i:Int)(b:fV):(g.alloc n i b).ty=g.ty++(n.iA b).toList/\(g.alloc n i b).KZ=g.KZ++(n.iA b).toList.map λ_=>i:=by
 unfold Ga.alloc Node.iA
 repeat' split
 all_goals simp[Ga.cell,Ga.put]
theorem mV(g:Ga)(n:Node)(i:Int)(b:fV):(g.alloc n i b).gen=g.gen/\(g.alloc n i b).dec=g.dec:=by
 unfold Ga.alloc
 repeat' split
 all_goals exact⟨rfl,rfl⟩
theorem Ga.rM{g:Ga}(h:GW g)(n:Node)(i:Int)(b:fV):Ge g (g.alloc n i b):=
 ⟨by rw[iQ];exact zG _ _,by rw[wE];exact zG _ _,by rw[(mH g n i b).1];exact zG _ _,by rw[(mH g n i b).2];exact zG _ _,by rw[(mV g n i b).1];exact bD _,λc h=>by rw[(mV g n i b).2];exact h,h.xT⟩
theorem Ga.wD{g:Ga}(h:GW g)(τ:eY)(i:Int):Ge g (g.cell τ i):=⟨Qa _,Qa _,zG _ _,zG _ _,bD _,λ_ h=>h,h.xT⟩
theorem Ga.yD{g:Ga}(h:GW g):Ge g g.bS:=⟨Qa _,Qa _,Qa _,Qa _,Nat.le_succ _,λ_ h=>h,h.xT⟩
theorem cJ.ge{g g':Ga}{n:Node}{b:fV}(h:cJ g n b)(k:Ge g g'):cJ g' n b:=
 ⟨h.valid,h.fit,h.lo,h.hi,λhk=>⟨Int.le_trans (h.i hk).1 (by have:=k.gen;omega),(h.i hk).2⟩,λhk=>⟨(h.c hk).1,(h.c hk).2.1,λj hj=>((h.c hk).2.2 j hj).imp (λh=>h.ge k) λh=>h.ge k⟩,h.t,h.l,λhk=>(h.f hk).ge k,λhk=>⟨(h.d hk).1.ge k,(h.d hk).2.1.ge k,(h.d hk).2.2.ge k⟩⟩
theorem pW(n:Node)(c:Int):(n.stored c).bM=n.bM:=by unfold Node.bM;rw[dX]
theorem Lh(n:Node)(c:Int)(b:fV):(n.stored c).iA b=n.iA b:=by
 unfold Node.iA;rw[pW,dX]
theorem BZ(n:Node)(c:Int):(n.stored c).cA=n.cA:=by
 unfold Node.cA;rw[pW,dX]
theorem Jj{n:Node}(hv:n.valid=true){c:Int}(hc:0<=c)(k:Int):aB (n.stored c) k=aB n k:=by
 have e:(n.stored c).aA=n.aA/\(n.stored c).aD=n.aD:=by
  unfold Node.stored;repeat' split
  all_goals exact⟨rfl,rfl⟩
 have hi:(n.stored c).lO=n.lO:=by unfold Node.lO;rw[dX,hv,Ah hv hc]
 unfold aB;rw[hi,e.1,e.2]
theorem cJ.stored{g:Ga}{n:Node}{b:fV}(h:cJ g n b){c:Int}(hc:0<=c):cJ g (n.stored c) b:=by
 have e:(n.stored c).gen=n.gen/\(n.stored c).dC=n.dC/\(n.stored c).aK=n.aK/\(n.stored c).new=n.new/\(n.stored c).hash=n.hash:=by
  unfold Node.stored;repeat' split
  all_goals exact⟨rfl,rfl,rfl,rfl,rfl⟩
 obtain⟨L,hL⟩:=h.fit
 refine⟨Ah h.valid hc,⟨L,BY hL hc⟩,?_,?_,?_,?_,?_,?_,?_,?_⟩
 ·rw[dX];exact h.lo
 ·rw[dX];exact h.hi
 ·rw[dX,e.1];exact h.i
 ·rw[dX];intro hk;refine⟨(h.c hk).1,(h.c hk).2.1,λk=>?_⟩;rw[Jj h.valid hc];exact(h.c hk).2.2 k
 ·rw[dX,e.2.2.2.2];exact h.t
 ·rw[dX,e.2.2.2.2];exact h.l
 ·rw[dX,e.2.1];exact h.f
 ·rw[dX,e.2.1,e.2.2.1,e.2.2.2.1];exact h.d
theorem Ee{n:Node}{c:Int}(h:n.cA=true):(n.stored c).cellOf=c:=by
 unfold Node.cA at h
 unfold Node.stored Node.cellOf
 repeat' split
 all_goals simp_all [Node.bare]
theorem DR{n:Node}{b:fV}{τ:eY}(h:n.iA b=some τ):n.cA=true:=by
 unfold Node.iA at h
 unfold Node.cA
 repeat' split at h
 all_goals first
  |(cases h;done)
  |simp_all
theorem Jr{n:Node}(b:fV)(h:n.cA=true):∃τ,n.iA b=some τ:=by
 unfold Node.cA at h
 unfold Node.iA
 repeat' split
 all_goals first
  |exact⟨_,rfl⟩
  |simp_all
theorem sR{g:Ga}{c:Int}{τ:eY}(h:g.oA c=some τ):1<=c/\c<=g.ty.length:=by
 unfold Ga.oA at h
 split at h
 ·cases h
 ·have:=(List.getElem?_eq_some_iff.1 h).1;omega
theorem JX{g:Ga}{n:Node}{i:Int}{b:fV}{τ:eY}(h:n.iA b=some τ):(g.alloc n i b).oA (g.ty.length+1)=some τ:=by
 unfold Ga.oA
 rw[if_neg (by omega),(mH g n i b).1,h]
 simp
theorem KJ{g:Ga}(h:GW g)(n:Node)(i:Int)(b:fV):(g.alloc n i b).zip=g.zip++[(n.stored (g.ty.length+1),b)]:=by
 unfold Ga.zip;rw[iQ,wE,List.zip_append h.xT.symm];rfl
theorem EP{g:Ga}(h:GW g){n:Node}(hn:n∈g.nodes):∃b,(n,b)∈g.zip:=by
 obtain⟨i,hi,rfl⟩:=List.getElem_of_mem hn
 have hl:=h.xT
 have hz:i<(g.nodes.zip g.xT).length:=by rw[List.length_zip];omega
 refine⟨g.xT[i]'(by omega),?_⟩
 have:=qR hz
 rw[List.getElem_zip]at this
 exact this
theorem Xy(g:Ga)(τ:eY)(i:Int):(g.cell τ i).oA (g.ty.length+1)=some τ:=by
 unfold Ga.oA Ga.cell
 rw[if_neg (by omega)]
 simp
theorem yE(g:Ga)(n:Node)(i:Int)(b:fV):(g.alloc n i b).node (g.nodes.length+3)=n.stored (g.ty.length+1):=by
 rw[pZ,iQ,cO,CG,if_neg (by omega),if_neg (by omega),eX]
 have:((g.nodes.length:Int)+3).toNat -3=g.nodes.length:=by omega
 rw[this,tW (bD _)]
 simp
theorem uU{g:Ga}(h:GW g)(n:Node)(i:Int)(b:fV):(g.alloc n i b).label (g.nodes.length+3)=b:=by
 unfold Ga.label
 have:((g.nodes.length:Int)+3).toNat -3=g.nodes.length:=by omega
 rw[this,wE,eX,tW (by rw[h.xT];exact bD _),h.xT]
 simp
theorem tN(g:Ga)(n:Node)(i:Int)(b:fV):((g.alloc n i b).node (g.nodes.length+3)).kind=n.kind:=by rw[yE,dX]
theorem oU{g:Ga}(hw:GW g){n:Node}{i:Int}{b:fV}(h:n.kind=2):jV (g.alloc n i b) (g.nodes.length+3) b:=⟨by rw[tN,h],uU hw n i b⟩
theorem Cs{g:Ga}{n:Node}{i:Int}{b b':fV}(h:n.kind=4)(hh:n.hash%64^b.1=b.2):Dg (g.alloc n i b') (g.nodes.length+3) b:=by
 refine⟨by rw[tN,h],?_⟩
 rw[yE]
 have e:(n.stored (g.ty.length+1)).hash=n.hash:=by
  unfold Node.stored;repeat' split
  all_goals rfl
 rw[e];exact hh
theorem HY{g:Ga}(hw:GW g){n:Node}{i:Int}{b:fV}(h:n.kind=7):ED (g.alloc n i b) (g.nodes.length+3) b:=⟨by rw[tN,h],uU hw n i b⟩
theorem IM{g:Ga}{n:Node}{i:Int}{b:fV}(h:n.kind=8):Ed (g.alloc n i b) (g.nodes.length+3):=by unfold Ed;rw[tN,h]
theorem kQ{g:Ga}(hw:GW g){n:Node}{i:Int}{b:fV}(h:n.bM=true):oH (g.alloc n i b) (g.nodes.length+3) b:=⟨by rw[yE,pW,h],uU hw n i b⟩
theorem Wy{g:Ga}(h:GW g){n:Node}{i:Int}{b:fV}(hn:cJ g n b)(hi:Tb g n i b):GW (g.alloc n i b):=by
 have hge:=Ga.rM h n i b
 have hs:cJ (g.alloc n i b) (n.stored (g.ty.length+1)) b:=(hn.ge hge).stored (by omega)
 have hz:=KJ h n i b
 refine⟨?_,?_,?_,?_,?_,?_,?_,?_,?_⟩
 ·intro m hm
  rw[hz,RD,Lf]at hm
  rcases hm with hm|rfl
  ·exact(h.node m hm).ge hge
  ·exact hs
 ·intro m hm τ hτ
  rw[hz,RD,Lf]at hm
  rcases hm with hm|rfl
  ·exact hge.oA (h.cell m hm τ hτ)
  ·dsimp only at hτ ⊢
   rw[Lh]at hτ
   rw[Ee (DR hτ)];exact JX hτ
 ·intro m hm hk
  rw[hz,RD,Lf]at hm
  rcases hm with hm|rfl
  ·exact h.main m hm hk
  ·dsimp only at hk ⊢
   rw[dX]at hk
   unfold Node.stored Node.cellOf;rw[if_pos hk];simp[Node.bare]
 ·intro m hm hk
  rw[hz,RD,Lf]at hm
  rcases hm with hm|rfl
  ·exact h.prev m hm hk
  ·dsimp only at hk ⊢
   rw[pW]at hk
   have h2:n.kind≠2:=λh2=>by unfold Node.bM at hk;rw[h2]at hk;simp at hk
   unfold Node.stored Node.cellOf;rw[if_neg h2,if_pos hk];simp[Node.bare]
 ·intro m hm hk
  rw[hz,RD,Lf]at hm
  rcases hm with hm|rfl
  ·exact h.status m hm hk
  ·dsimp only at hk ⊢
   rw[dX]at hk
   unfold Node.stored Node.cellOf;rw[if_neg (by omega),if_neg (by unfold Node.bM;rw[hk];decide),if_pos hk];simp[Node.bare]
 ·rw[iQ,Ab,List.pairwise_append]
  refine⟨h.sort,?_,?_⟩
  ·rw[Co];split<;>simp
  ·intro a ha c hc
   rw[List.mem_filter]at ha hc
   rw[Lf]at hc
   obtain⟨rfl,hc⟩:=hc
   obtain⟨la,hla⟩:=EP h ha.1
   obtain⟨τ,hτ⟩:=Jr la ha.2
   have:=sR (h.cell _ hla τ hτ)
   rw[BZ]at hc
   rw[Ee hc];dsimp only at this;omega
 ·rw[(mH g n i b).1,(mH g n i b).2,cO,cO,mI,h.len]
 ·rw[wE,iQ,cO,cO,h.xT];rfl
 ·intro r b' hr h0
  by_cases hc:r<=g.count
  ·have hr':oH g r b':=by
    have h3:=sV hr.two
    unfold oH at hr ⊢
    rw[hge.node hc,hge.label hc h3]at hr;exact hr
   rw[hge.node hc,hge.first h (h.Nl hr')]at h0 ⊢
   exact(h.SQ r b' hr' h0).ge hge
  ·have h1:=hr.dU
   unfold Ga.count at hc h1
   rw[iQ,cO,CG]at h1
   obtain rfl:r=(g.nodes.length:Int)+3:=by omega
   have hm:n.bM=true:=by have:=hr.1;rwa [yE,pW]at this
   obtain rfl:b=b':=by have:=hr.2;rwa [uU h]at this
   have h2:n.kind≠2:=λh2=>by unfold Node.bM at hm;rw[h2]at hm;simp at hm
   have ef:(g.alloc n i b).first ((g.alloc n i b).node (g.nodes.length+3)).prev=i:=by
    rw[yE]
    unfold Node.stored Ga.first
    rw[if_neg h2,if_pos hm,(mH g n i b).2]
    unfold Node.iA
    rw[if_neg h2,if_pos hm,eX,tW (by rw[h.len];dsimp only;omega),h.len]
    dsimp only
    rw[show ((g.ty.length:Int)+1).toNat -1-g.ty.length=0 by omega];rfl
   rw[ef]at h0 ⊢
   exact((hi.2.1 hm).resolve_left h0).ge hge
theorem EI{g:Ga}(h:GW g)(τ:eY)(i:Int):GW (g.cell τ i):=by
 have hge:=Ga.wD h τ i
 exact⟨λm hm=>(h.node m hm).ge hge,λm hm τ hτ=>hge.oA (h.cell m hm τ hτ),h.main,h.prev,h.status,h.sort,by simp[Ga.cell,h.len],h.xT,λr b hr h0=>by
  have hr':oH g r b:=hr
  rw[show (g.cell τ i).node r=g.node r from rfl,hge.first h (h.Nl hr')]at h0 ⊢
  exact(h.SQ r b hr' h0).ge hge⟩
theorem NN{g:Ga}(h:GW g):GW g.bS:=by
 have hge:=Ga.yD h
 exact⟨λm hm=>(h.node m hm).ge hge,λm hm τ hτ=>hge.oA (h.cell m hm τ hτ),h.main,h.prev,h.status,h.sort,h.len,h.xT,λr b hr h0=>(h.SQ r b hr h0).ge hge⟩
end Go.Ct
end
