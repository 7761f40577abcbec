/- Parts of a proof: Wm, Po, Lp, Ro, Ph, Rh, BmRef. -/
import Derived.Test.YtlpbjpanggcbbaaGreatDoorW25
import Derived.Deep.QuietTactic
import Derived.BigQuiet
set_option linter.unusedVariables false
set_option linter.unusedSimpArgs false
set_option maxRecDepth 100000
set_option maxHeartbeats 4000000
section
namespace Go.Ct
variable{g:Ga}
def FY:I Result:=.alloc {kind:=3} 0 wK
def SI:I Result:=.alloc {kind:=3} 0 Bt
theorem KP(hw:GW g):Sm SI FY g:=
 .alloc (0,0) (Js (by decide) (by decide)) ⟨(λh=>by cases h),(λ_=>.inl rfl),λh=>by cases h⟩ λh3 hw3=>Ce hw3 (kQ hw rfl)
def g0:Ga:=⟨[],[],[],[],0,λ_=>False⟩
theorem D4:GW g0:=⟨(λn h=>by cases h),(λn h=>by cases h),(λn h=>by cases h),(λn h=>by cases h),(λn h=>by cases h),.nil,rfl,rfl⟩
theorem B9:nZ g0 {}:=⟨rfl,rfl,rfl,(λc τ h=>by have:=sR h;have e:g0.ty.length=0:=rfl;omega),λc h=>h.elim⟩
def hJ(s:St):St×bC:=
 let a:=s.alloc {kind:=3} 0
 let g:=a.1.bS
 let m:=g.1.alloc {kind:=2,gen:=g.2} a.2
 let c:=m.1.aV m.2
 (c.1,{root:=c.2})
theorem TR:eK {}:=λn h=>by cases h
theorem DW:eK (hJ {}).1:=
 (eK.alloc (s:=(({}:St).alloc {kind:=3} 0).1.bS.1) (eK.alloc (s:={}) TR (fY _) 0) (bG _ 2 _ 0 0 0) _:eK _)
theorem d5:∃g,Lc 0 g (hJ {}).1 [(hJ {}).2] []:=by
 obtain⟨g',s',u,u',h1,h2,h3,h4,h5,h6⟩:=(KP D4).head D4 {} B9
 have e:FY.head {}=((hJ {}).1,.ret {found:=true,aE:=(hJ {}).2}):=rfl
 rw[e]at h2
 obtain⟨rfl,rfl⟩:=Prod.mk.inj h2
 cases h6 with
 |ret a _ hq=>
  refine⟨g',h4,h5,DW,?_,rfl,Nat.succ_pos 0,by show 1<=5;omega,(λz m=>by cases m),bD _,by decide⟩
  intro t m
  rw[List.mem_singleton.1 m]
  rcases hq with hq|hq
  ·exact absurd hq (by decide)
  ·exact hq
theorem Lc.Gz{k:Nat}{s:St}{ts:List bC}{zs:List (Nat×Ex)}{c:Call}(h:Lc k g s ts zs)(h7:7<=c.kind)(h12:c.kind<=12)(hm:c.aE∈ts)(hr:c.kind=8\/c.kind=9\/c.kind=12->c.aE.readOnly=false):kZ g c:=
 ⟨h7,h12,h.GO _ hm,hr⟩
end Go.Ct
end
section
namespace Go.Ct
variable{g:Ga}
theorem FE(b:Nat):∀n p,p<Bm.pop n b->∃i,i<n/\b.testBit i=true/\Bm.pop i b=p
 |0,p,h=>absurd h (by unfold Bm.pop;omega)
 |n+1,p,h=>by
  rw[Bm.cZ]at h
  by_cases h1:p<Bm.pop n b
  ·obtain⟨i,a,c⟩:=FE b n p h1;exact⟨i,Nat.lt_succ_of_lt a,c⟩
  ·cases hb:b.testBit n with
   |false=>rw[hb]at h;simp at h;omega
   |true=>rw[hb]at h;simp at h;exact⟨n,by omega,hb,by omega⟩
theorem Yj{n:Node}(h:n.lO=true){r:Int}(hr:r∈n.aA):∃k,aB n k=(r,true):=by
 obtain⟨j,hj,rfl⟩:=List.getElem_of_mem hr
 obtain⟨i,h1,h2,h3⟩:=FE n.aD 64 j (by rw[<- (hG h).2];exact hj)
 have hh:Bm.has n.aD i=true:=by unfold Bm.has;rw[eC (show (0:Int)<=(i:Int) by omega),eC (show (i:Int)<64 by omega)];simpa using h2
 refine⟨i,?_⟩
 unfold aB
 rw[if_neg (by rw[h,hh];simp)]
 have hp:Bm.aO n.aD i=j:=by
  unfold Bm.aO Bm.cut
  by_cases h0:i=0
  ·subst h0;simpa[Bm.pop]using h3
  ·rw[if_neg (by omega),if_neg (by omega)];simpa using h3
 rw[hp,Fb,fM hj];rfl
def Node.gZ(n:Node):Int:=if n.kind=2 then n.main else if n.bM=true then n.prev else if n.kind=8 then n.status else 0
structure iV(s:St):Prop where
 cells:∀r∈s.cells,0<=r/\r<=((2+s.aG.length:Nat):Int)
 node:∀n∈s.aG,n.valid=true/\n.gen<=(s.gen:Int)/\(∀r∈n.aA,0<=r/\r<=((2+s.aG.length:Nat):Int))/\(0<=n.dC/\n.dC<=((2+s.aG.length:Nat):Int))/\(0<=n.aK/\n.aK<=((2+s.aG.length:Nat):Int))/\0<=n.new/\n.new<=((2+s.aG.length:Nat):Int)
 cell:∀n∈s.aG,n.cA=true->1<=n.cellOf/\n.cellOf<=(s.cells.length:Int)
 main:∀n∈s.aG,n.kind=2->n.cellOf=n.main
 prev:∀n∈s.aG,n.bM=true->n.cellOf=n.prev
 status:∀n∈s.aG,n.kind=8->n.cellOf=n.status
 sort:(s.aG.filter Node.cA).Pairwise λa b=>a.cellOf<b.cellOf
theorem iY{r:Int}(h:(g.node r).kind≠0):0<=r/\r<=((2+g.nodes.length:Nat):Int):=by
 have h1:=uA h
 have h2:=kI h
 unfold Ga.count at h2;omega
theorem kB.range{c v:Int}{τ:eY}(h:kB g c v τ):0<=v/\v<=((2+g.nodes.length:Nat):Int):=by
 cases τ with
 |root=>
   rcases h with h|h
   ·exact iY (by rw[h.1];decide)
   ·exact iY (by rw[show (g.node v).kind=8 from h];decide)
 |fixed=>exact iY (by rw[h.1];decide)
 |main b=>exact iY (by have:=oH.two h;omega)
 |prev b=>
   rcases h with h|h|h
   ·omega
   ·exact iY (by rw[h.1];decide)
   ·exact iY (by have:=oH.two h.2.1;omega)
 |status=>rcases h with h|h|h<;>omega
theorem Vk{n:Node}(h:n.valid=true):(n.kind≠2->n.gen=0)/\(n.kind≠3->n.aA=[])/\(n.kind≠7->n.kind≠8->n.dC=0)/\(n.kind≠8->n.aK=0/\n.new=0):=by
 have hv:=tG h
 have hk:=nF h
 refine⟨λk=>?_,λk=>?_,λk k'=>?_,λk=>⟨?_,?_⟩⟩<;>
  (rw[hv];unfold Node.only;repeat' split)<;>first|rfl|(exfalso;omega)
theorem IE{s:St}(hw:GW g)(ht:nZ g s):iV s:=by
 have hn:=ht.nodes
 have hmem:∀n∈s.aG,∃b,(n,b)∈g.zip:=λn m=>EP hw (by rw[<- hn];exact m)
 refine⟨?_,?_,?_,?_,?_,?_,by rw[hn];exact hw.sort⟩
 ·intro r hr
  obtain⟨j,hj,rfl⟩:=List.getElem_of_mem hr
  have hl:=ht.len
  have hc:g.oA (j+1)=some (g.ty[j]'(by omega)):=by
   unfold Ga.oA
   rw[if_neg (by omega)]
   have:((j:Int)+1).toNat -1=j:=by omega
   rw[this,fM]
  have:=(ht.holds _ _ hc).range
  have e:((j:Int)+1).toNat -1=j:=by omega
  rw[e,Fb,fM hj]at this
  rw[hn];exact this
 ·intro n m
  obtain⟨b,hz⟩:=hmem n m
  have ho:cJ g n b:=hw.node _ hz
  have hf:=Vk ho.valid
  have z0:(0:Int)<=0/\(0:Int)<=((2+g.nodes.length:Nat):Int):=by omega
  rw[hn,ht.gen]
  refine⟨ho.valid,?_,?_,?_,?_,?_⟩
  ·by_cases k:n.kind=2
   ·exact(ho.i k).1
   ·rw[hf.1 k];omega
  ·intro r hr
   by_cases k:n.kind=3
   ·obtain⟨i,hi⟩:=Yj (n:=n) (by unfold Node.lO;rw[k,ho.valid];rfl) hr
    have:=(ho.c k).2.2 i (by rw[hi])
    rw[hi]at this
    rcases this with h|h
    ·exact iY (by rw[h.1];decide)
    ·exact iY (by rw[h.1];decide)
   ·rw[hf.2.1 k]at hr;cases hr
  ·by_cases k:n.kind=7
   ·exact iY (by have:=(ho.f k).two;omega)
   ·by_cases k':n.kind=8
    ·exact iY (by rw[((ho.d k').1).1];decide)
    ·rw[hf.2.2.1 k k'];exact z0
  ·by_cases k:n.kind=8
   ·exact iY (by have:=((ho.d k).2.1).two;omega)
   ·rw[(hf.2.2.2 k).1];exact z0
  ·by_cases k:n.kind=8
   ·exact iY (by rw[((ho.d k).2.2).1];decide)
   ·rw[(hf.2.2.2 k).2];exact z0
 ·intro n m hc
  obtain⟨b,hz⟩:=hmem n m
  obtain⟨τ,hτ⟩:=Jr b hc
  have:=sR (hw.cell _ hz τ hτ)
  have hl:=ht.len
  dsimp only at this;omega
 ·intro n m k;obtain⟨b,hz⟩:=hmem n m;exact hw.main _ hz k
 ·intro n m k;obtain⟨b,hz⟩:=hmem n m;exact hw.prev _ hz k
 ·intro n m k;obtain⟨b,hz⟩:=hmem n m;exact hw.status _ hz k
structure FO(s:St)(n:Node):Prop where
 valid:n.valid=true
 gen:n.gen<=(s.gen:Int)
 br:∀r∈n.aA,0<=r/\r<=((2+s.aG.length:Nat):Int)
 dC:0<=n.dC/\n.dC<=((2+s.aG.length:Nat):Int)
 ex:0<=n.aK/\n.aK<=((2+s.aG.length:Nat):Int)
 nw:0<=n.new/\n.new<=((2+s.aG.length:Nat):Int)
 lo:n.cA=true->1<=n.gZ/\n.gZ<=(s.cells.length:Int)
theorem iV.gZ{s:St}(h:iV s){n:Node}(m:n∈s.aG)(hc:n.cA=true):n.gZ=n.cellOf:=by
 unfold Node.gZ
 split
 ·rename_i k;exact(h.main n m k).symm
 ·split
  ·rename_i k;exact(h.prev n m k).symm
  ·split
   ·rename_i k;exact(h.status n m k).symm
   ·unfold Node.cA at hc;simp_all
theorem Bx:gY.cA=false:=by decide
theorem iV.all{s:St}(h:iV s):∀n∈gY::gY::s.aG,FO s n:=by
 have hm:FO s gY:=⟨by decide+kernel,by show (0:Int)<=_;omega,(λr hr=>by cases hr),by show (0:Int)<=0/\(0:Int)<=_;omega,by show (0:Int)<=0/\(0:Int)<=_;omega,by show (0:Int)<=0/\(0:Int)<=_;omega,λhc=>by rw[Bx]at hc;cases hc⟩
 intro n m
 rcases List.mem_cons.1 m with rfl|m
 ·exact hm
 ·rcases List.mem_cons.1 m with rfl|m
  ·exact hm
  ·obtain⟨h1,h2,h3,h4,h5,h6⟩:=h.node n m
   exact⟨h1,h2,h3,h4,h5,h6,λhc=>by rw[h.gZ m hc];exact h.cell n m hc⟩
theorem iV.oS{s:St}(h:iV s):((gY::gY::s.aG).filter Node.cA).Pairwise λa b=>a.gZ<b.gZ:=by
 rw[AD,if_neg (by rw[Bx];decide),AD,if_neg (by rw[Bx];decide)]
 refine h.sort.imp_of_mem λ{a b} ha hb hlt=>?_
 rw[List.mem_filter]at ha hb
 rw[h.gZ ha.1 ha.2,h.gZ hb.1 hb.2];exact hlt
def Eu(ns:List Node)(k:Nat)(bs:List Bool):Prop:=∀j,bs.getD j false=true->∃n∈ns.take k,n.cA=true/\n.gZ=(j:Int)+1
theorem Hf(ns:List Node)(m:Nat):Eu ns 0 (List.replicate m false):=λj hj=>by
 rw[Fb,List.getElem?_replicate]at hj
 split at hj<;>cases hj
theorem yI{ns:List Node}{k:Nat}{bs:List Bool}(h:Eu ns k bs):Eu ns (k+1) bs:=λj hj=>by
 obtain⟨n,m,h1⟩:=h j hj
 exact⟨n,Br (i:=k) (by rw[List.take_take,jI (by omega)];exact m),h1⟩
theorem Je{ns:List Node}{k j:Nat}{bs:List Bool}(h:Eu ns k bs)(hk:k<ns.length)(hc:(ns.getD k {}).cA=true)(hj:(ns.getD k {}).gZ -1=(j:Int)):Eu ns (k+1) (bs.set j true):=λi hi=>by
 by_cases e:i=j
 ·subst e
  refine⟨ns.getD k {},?_,hc,by omega⟩
  rw[Fb,fM hk,List.take_add_one,fM hk];exact List.mem_append_right _ (List.mem_singleton_self _)
 ·refine yI h i ?_
  rw[Fb,List.getElem?_set_ne (λq=>e q.symm),<- Fb]at hi;exact hi
theorem Vy{ns:List Node}{k j:Nat}{bs:List Bool}(hs:(ns.filter Node.cA).Pairwise λa b=>a.gZ<b.gZ)(h:Eu ns k bs)(hk:k<ns.length)(hc:(ns.getD k {}).cA=true)(hj:(ns.getD k {}).gZ -1=(j:Int)):bs.getD j false=false:=by
 cases hb:bs.getD j false with
 |false=>rfl
 |true=>
  obtain⟨m,hm,h1,h2⟩:=h j hb
  have e:ns.getD k {}=ns[k]:=by rw[Fb,fM hk];rfl
  have hns:ns=ns.take k++ns[k]::ns.drop (k+1):=by rw[<- cE hk,RF]
  rw[e]at hc hj
  rw[hns,Ab,List.pairwise_append]at hs
  have:=hs.2.2 m (List.mem_filter.2 ⟨hm,h1⟩) ns[k] (by rw[AD,if_pos hc];exact List.mem_cons_self ..)
  omega
end Go.Ct
end
section
namespace Go.Ct
variable{g:Ga}
structure Px where
 tb:Nat:=0
 xb:Nat:=0
 k:Nat:=0
 e:Ex:={}
 u:I Result:=.ret {}
structure Ub(i:Nat)(g:Ga)(s:St)(ys:List Px):Prop where
 gw:GW g
 PI:nZ g s
 fit:eK s
 ex:∀z∈ys,z.e.eG.length=z.k/\z.k<=i/\∃u',Er g z.e z.u u'
 size:s.size<=38000000000+200000*i
theorem Er.same{e:Ex}{u u':I Result}(h:Er g e u u'):e.done=u.ended.isSome/\(u.ended=none->e.next=u.acc)/\∀r,u.ended=some r->e.result=r:=by
 obtain⟨h1,h2⟩:=h.sh.acc
 exact⟨by rw[h.rest.done,<- h2],λq=>by rw[h.rest.next (by rw[<- h2];exact q),h1],λr q=>h.rest.A6 r (by rw[<- h2];exact q)⟩
theorem Ub.ready{i:Nat}{s:St}{ys:List Px}(h:Ub i g s ys)(hi:i<=1000){z:Px}(hz:z∈ys):Ok 60 (cD 1 ⟨z.e,s⟩)/\(cD 1 ⟨z.e,s⟩).left<FU/\z.e.call.aI<18446744073709551616/\z.e.call.key.size<=9223372036854775807/\7<=z.e.call.kind/\z.e.call.kind<=12:=by
 obtain⟨h1,h2,u',hE⟩:=h.ex z hz
 have hs:=h.size
 obtain⟨a,b⟩:=hE.ready h.PI h.fit (by unfold room;omega)
 exact⟨a,b,hE.aI,hE.key,hE.ok.lo,hE.ok.hi⟩
def Px.next(z:Px)(s:St):Px:={z with k:=z.k+1,e:=(bX (bY z.e.call FU) 1 ⟨z.e,s⟩).e,u:=(z.u.step s).2}
theorem Ub.step{i j:Nat}{s:St}{ys:List Px}(h:Ub i g s ys)(hi:i<=1000)(hj:j<ys.length)(hd:ys[j].e.done=false)(hok:Ok 50 (bX (bY ys[j].e.call FU) 1 ⟨ys[j].e,s⟩)):
  ((ys[j].u).step s).1=(bX (bY ys[j].e.call FU) 1 ⟨ys[j].e,s⟩).s/\∃g',Ub (i+1) g' (bX (bY ys[j].e.call FU) 1 ⟨ys[j].e,s⟩).s (ys.set j (ys[j].next s)):=by
 obtain⟨h1,h2,u',hE⟩:=h.ex _ (qR hj)
 obtain⟨g',v,v',e1,k2,w2,t2,f2,E2,l2,b2,b3⟩:=hE.step h.gw h.PI h.fit hd (by unfold Cx;omega) hok
 have hs:=h.size
 refine⟨by rw[e1],g',w2,t2,f2,?_,by omega⟩
 intro z m
 rcases List.mem_or_eq_of_mem_set m with m|rfl
 ·obtain⟨a,b,q,c⟩:=h.ex z m
  exact⟨a,by omega,q,c.ge h.gw k2⟩
 ·refine⟨by show (bX (bY ys[j].e.call FU) 1 ⟨ys[j].e,s⟩).e.eG.length=ys[j].k+1;rw[l2,h1],by show ys[j].k+1<=i+1;omega,v',?_⟩
  show Er g' _ ((ys[j].u).step s).2 v'
  rw[e1];exact E2
theorem Ub.add{i tb xb:Nat}{s:St}{ys:List Px}{c:Call}(h:Ub i g s ys)(hs:s.size+1000<=38000000000)(hc:kZ g c)(hm:c.aI<18446744073709551616)(hk:c.key.size<=9223372036854775807)(hok:Ok 50 (bX (bY c FU) 0 ⟨{call:=c},s⟩)):
  ∃g' u,(mS c FU).head s=((bX (bY c FU) 0 ⟨{call:=c},s⟩).s,u)/\Ge g g'/\(bX (bY c FU) 0 ⟨{call:=c},s⟩).s.size<=s.size+120/\Ub i g' (bX (bY c FU) 0 ⟨{call:=c},s⟩).s (ys++[{tb:=tb,xb:=xb,e:=(bX (bY c FU) 0 ⟨{call:=c},s⟩).e,u:=u}]):=by
 obtain⟨g',u,u',h1,h2,h3,h4,h5,h6,h7,h8,h9,h10⟩:=Er.start h.gw h.PI h.fit hc hm hk hok
 refine⟨g',u,h1,h2,h8,h3,h4,h5,?_,by omega⟩
 intro z m
 rcases List.mem_append.1 m with m|m
 ·obtain⟨a,b,q,c'⟩:=h.ex z m
  exact⟨a,b,q,c'.ge h.gw h2⟩
 ·rw[List.mem_singleton.1 m]
  exact⟨by show (bX (bY c FU) 0 ⟨{call:=c},s⟩).e.eG.length=0;rw[h7];rfl,Xe _,u',h6⟩
theorem nZ.acc{s:St}(h:nZ g s)(a:Nat):nZ g {s with acc:=a}:=⟨h.nodes,h.gen,h.len,h.holds,h.dec⟩
theorem Lc.M7{s:St}{ts:List bC}{zs:List (Nat×Ex)}(h:Lc 36 g s ts zs):Ub 0 g {s with acc:=0} []/\({s with acc:=0}:St).size+500<=37100000000:=by
 have hs:=h.size
 have:({s with acc:=0}:St).size<=s.size:=by unfold St.size;dsimp only;omega
 exact⟨⟨h.gw,h.PI.acc 0,h.fit,(λz m=>by cases m),by omega⟩,by omega⟩
end Go.Ct
end
section
namespace Go.Ct
theorem Ok.dR{j:Nat}{x:X}(h:Ok j x):x.s.size<=100000000000:=by have:=h.zP;unfold X.size cN at this;omega
end Go.Ct
namespace Go.Q9
open Go.Proofs.Tryz
open Go.RowKit Go.E
attribute [local irreducible] gB wpS Go.E.X XS C jU kP fin Y U F Ca jT bl rb aU bV ex ce pu sK gK bK zK
variable{B w:World}{L:List As}
theorem mU(xb mb:Nat)(x:Ct.X)(c:Int)(h:SH B w (XA xb mb x::L))(k:Ct.Ok 0 x):
  Calls prog 126 #[↑xb,↑c] w λe w'=>∃y v,Ct.dY c x=Ct.out y v/\e=.returned (.int .i64 v)/\SH B w' (XA xb mb y::L)/\Ct.Ok 90 y:=by
 have key:∀{e:Ending} {w':World},(∃y v,Ct.dY c x=Ct.out y v/\e=.returned (.int .i64 v)/\SH B w' (XA xb mb y::L))->∃y v,Ct.dY c x=Ct.out y v/\e=.returned (.int .i64 v)/\SH B w' (XA xb mb y::L)/\Ct.Ok 90 y:=
  λ⟨y,v,q,e,h⟩=>⟨y,v,q,e,h,(Ct.Gm k q).1.less (by omega)⟩
 cases hs:x.e.aC with
 |true=>exact(Uz xb mb x c h k hs).mono λ_ _=>key
 |false=>
  by_cases ha:x.e.a<x.e.eG.length
  ·exact(Zg xb mb x c h k hs ha).mono λ_ _=>key
  ·by_cases hf:x.e.free=0
   ·exact(Xt xb mb x c h k hs ha hf).mono λ_ _=>key
   ·exact(Ux xb mb x c h k hs ha hf).mono λ_ _=>key
theorem nQ(xb mb:Nat)(x:Ct.X)(c o n:Int)(h:SH B w (XA xb mb x::L))(k:Ct.Ok 0 x):
  Calls prog 128 #[↑xb,↑c,↑o,↑n] w λe w'=>∃y v,Ct.iB c o n x=Ct.out y v/\e=.returned (.bool v)/\SH B w' (XA xb mb y::L)/\Ct.Ok 90 y:=by
 have key:∀{e:Ending} {w':World},(∃y v,Ct.iB c o n x=Ct.out y v/\e=.returned (.bool v)/\SH B w' (XA xb mb y::L))->∃y v,Ct.iB c o n x=Ct.out y v/\e=.returned (.bool v)/\SH B w' (XA xb mb y::L)/\Ct.Ok 90 y:=
  λ⟨y,v,q,e,h⟩=>⟨y,v,q,e,h,(Ct.DS k q).1.less (by omega)⟩
 cases hs:x.e.aC with
 |true=>exact(BQ xb mb x c o n h k hs).mono λ_ _=>key
 |false=>
  by_cases ha:x.e.a<x.e.eG.length
  ·exact(BT xb mb x c o n h k hs ha).mono λ_ _=>key
  ·by_cases hf:x.e.free=0
   ·exact(AX xb mb x c o n h k hs ha hf).mono λ_ _=>key
   ·exact(DD xb mb x c o n h k hs ha hf).mono λ_ _=>key
theorem dS{j:Nat}(xb mb:Nat)(x:Ct.X)(n:Ct.Node)(p:Lq)(i:Int)(h:SH B w (aM n p::XA xb mb x::L))(k:Ct.Ok (j+1) x)(hn:n.Fit (x.s.aG.length+1)):
  Calls prog 131 #[↑xb,.agg (aL n p).toArray,↑i] w λe w'=>∃y v,Ct.dB n i x=Ct.out y v/\e=.returned (.int .i64 v)/\SH B w' (XA xb mb y::L)/\Ct.Ok j y/\x.s.aG.length<=y.s.aG.length:=by
 have key:∀{e:Ending} {w':World},(∃y v,Ct.dB n i x=Ct.out y v/\e=.returned (.int .i64 v)/\SH B w' (XA xb mb y::L))->∃y v,Ct.dB n i x=Ct.out y v/\e=.returned (.int .i64 v)/\SH B w' (XA xb mb y::L)/\Ct.Ok j y/\x.s.aG.length<=y.s.aG.length:=
  λ⟨y,v,q,e,h⟩=>⟨y,v,q,e,h,(Ct.Kz k hn q).1,(Ct.Kz k hn q).2.1⟩
 have k0:=k.less (Xe _)
 cases hs:x.e.aC with
 |true=>exact(Qq xb mb x n p i h k0 hs hn).mono λ_ _=>key
 |false=>
  by_cases hm:x.e.m=x.e.made.length
  ·exact(Sf xb mb x n p i h k0 hs hm hn).mono λ_ _=>key
  ·exact(Rr xb mb x n p i h k0 hs (by have:=k.m;omega) hn).mono λ_ _=>key
theorem AL{j:Nat}(xb mb:Nat)(x:Ct.X)(i:Int)(h:SH B w (XA xb mb x::L))(k:Ct.Ok (j+1) x):
  Calls prog 145 #[↑xb,↑i] w λe w'=>∃y v,Ct.fE i x=Ct.out y v/\e=.returned (.int .i64 v)/\SH B w' (XA xb mb y::L)/\Ct.Ok j y:=by
 have key:∀{e:Ending} {w':World},(∃y v,Ct.fE i x=Ct.out y v/\e=.returned (.int .i64 v)/\SH B w' (XA xb mb y::L))->∃y v,Ct.fE i x=Ct.out y v/\e=.returned (.int .i64 v)/\SH B w' (XA xb mb y::L)/\Ct.Ok j y:=
  λ⟨y,v,q,e,h⟩=>⟨y,v,q,e,h,(Ct.FQ k q).1⟩
 have k0:=k.less (Xe _)
 cases hs:x.e.aC with
 |true=>exact(Ue xb mb x i h k0 hs).mono λ_ _=>key
 |false=>
  by_cases hm:x.e.c=x.e.cells.length
  ·exact(Xg xb mb x i h k0 hs hm).mono λ_ _=>key
  ·exact(Us xb mb x i h k0 hs (by have:=k.c;omega)).mono λ_ _=>key
theorem MG{j:Nat}(xb mb:Nat)(x:Ct.X)(h:SH B w (XA xb mb x::L))(k:Ct.Ok (j+1) x):
  Calls prog 147 #[↑xb] w λe w'=>∃y v,Ct.iH x=Ct.out y v/\e=.returned (.int .i64 v)/\SH B w' (XA xb mb y::L)/\Ct.Ok j y:=by
 have key:∀{e:Ending} {w':World},(∃y v,Ct.iH x=Ct.out y v/\e=.returned (.int .i64 v)/\SH B w' (XA xb mb y::L))->∃y v,Ct.iH x=Ct.out y v/\e=.returned (.int .i64 v)/\SH B w' (XA xb mb y::L)/\Ct.Ok j y:=
  λ⟨y,v,q,e,h⟩=>⟨y,v,q,e,h,(Ct.QL k q).1⟩
 have k0:=k.less (Xe _)
 cases hs:x.e.aC with
 |true=>exact(CT xb mb x h k0 hs).mono λ_ _=>key
 |false=>
  by_cases hm:x.e.g=x.e.dG.length
  ·exact(CQ xb mb x h k0 hs hm).mono λ_ _=>key
  ·exact(CJ xb mb x h k0 hs (by have:=k.g;omega)).mono λ_ _=>key
theorem Sj(n:Ct.Node)(q:Lq)(h:SH B w (L)):
  Calls prog 156 #[.agg (aL n q).toArray] w λe w'=>e=.returned ↑n.bM/\SH B w' L:=by
 refine bZ func156 ntmps156 h λw h=>?_
 refine jX h λb1 w h=>?_
 refine qg h (λhd2 w h=>?_) λhd2 w h=>?_
 have hg3:=eq_of_beq hd2
 refine go h λw h=>?_
 refine rz ?_
 exact⟨by unfold Ct.Node.bM;simp[hd2],h.drop⟩
 have hg4:=mD hd2
 refine go h λw h=>?_
 refine qg h (λhd5 w h=>?_) λhd5 w h=>?_
 have hg6:=eq_of_beq hd5
 refine go h λw h=>?_
 refine rz ?_
 exact⟨by unfold Ct.Node.bM;simp[hd2,hd5],h.drop⟩
 have hg7:=mD hd5
 refine go h λw h=>?_
 refine rz ?_
 exact⟨by unfold Ct.Node.bM;simp[hd2,hd5],h.drop⟩
theorem pC(xb mb:Nat)(x:Ct.X)(v s:Int)(h:SH B w (XA xb mb x::L)){j:Nat}(k:Ct.Ok j x):
  Calls prog 130 #[↑xb,↑v,↑s] w λe w'=>∃u,Ct.aX (Ct.wR v s) x=Ct.out x u/\e=.returned (.int .i64 u)/\SH B w' (XA xb mb x::L):=by
 refine bZ func130 ntmps130 h λw h=>?_
 refine qc h (λhd1 w h=>?_) λhd1 w h=>?_
 have hg2:=eq_of_beq hd1
 refine go h λw h=>?_
 refine cG (aN _ _ _ _ h.to k.dR) λp3 w h=>?_
 have h:=h.drop
 refine go h λw h=>?_
 exact rz ⟨_,Ct.rT hd1<|Ct.rN<|Ct.rR,rfl,h⟩
 have hg4:=mD hd1
 refine go h λw h=>?_
 refine cG (aN _ _ _ _ h.to k.dR) λp5 w h=>?_
 have h:=h.drop
 refine go h λw h=>?_
 exact rz ⟨_,Ct.rF hd1<|Ct.rN<|Ct.rR,rfl,h⟩
theorem PW(xb mb:Nat)(x:Ct.X)(t:Ct.bC)(h:SH B w (XA xb mb x::L))(k:Ct.Ok 30 x):
  Calls prog 157 #[↑xb,.agg (cU t).toArray] w λe w'=>∃y v,Ct.aX (Ct.GS t) x=Ct.out y v/\e=.returned (.int .i64 v)/\SH B w' (XA xb mb y::L)/\Ct.Ok 60 y:=by
 refine bZ func157 ntmps157 h λw h=>?_
 refine jX h λb1 w h=>?_
 refine dE (mU _ _ _ _ h.to (k.less (by omega))) λy2 v3 q4 w h k=>?_
 refine st (ld (v:=.bool y2.e.aC) One.h rfl (h.xc a0 λ_=>rfl))<|go h λw h=>?_
 refine qg h (λhd5 w h=>?_) λhd5 w h=>?_
 exact rz ⟨_,_,Ct.rL q4<|Ct.rS hd5,rfl,h.to,(k.stop hd5)⟩
 refine cG (aN _ _ _ _ h.to k.dR) λp6 w h=>?_
 have h:=h.drop
 refine qc h (λhd7 w h=>?_) λhd7 w h=>?_
 exact rz ⟨_,_,Ct.rL q4<|Ct.rN<|Ct.rT hd7<|Ct.rR,rfl,h.to,(k.less (by omega))⟩
 refine cG (aN _ _ _ _ h.to k.dR) λp10 w h=>?_
 have h:=h.drop
 refine dE (mU _ _ _ _ h.to (k.less (by omega))) λy11 v12 q13 w h k=>?_
 refine qc h (λhd14 w h=>?_) λhd14 w h=>?_
 refine cG (aN _ _ _ _ h.to k.dR) λp16 w h=>?_
 have h:=h.drop
 refine dE (nQ _ _ _ _ _ _ h.to (k.less (by omega))) λy17 v18 q19 w h k=>?_
 refine cG (aN _ _ _ _ h.to k.dR) λp20 w h=>?_
 have h:=h.drop
 refine dE (mU _ _ _ _ h.to (k.less (by omega))) λy21 v22 q23 w h k=>?_
 refine Pv (pC _ _ _ _ _ h.to k) λv24 q25 w h=>?_
 refine dE (nQ _ _ _ _ _ _ h.to (k.less (by omega))) λy26 v27 q28 w h k=>?_
 exact rz ⟨_,_,Ct.rL q4<|Ct.rN<|Ct.rF hd7<|Ct.rN<|Ct.rL q13<|Ct.rT hd14<|Ct.rN<|Ct.rC q19<|Ct.rN<|Ct.rL q23<|Ct.rB q25<|Ct.rC q28<|Ct.rR,rfl,h.to,(k.less (by omega))⟩
 refine Pv (pC _ _ _ _ _ h.to k) λv30 q31 w h=>?_
 refine dE (nQ _ _ _ _ _ _ h.to (k.less (by omega))) λy32 v33 q34 w h k=>?_
 exact rz ⟨_,_,Ct.rL q4<|Ct.rN<|Ct.rF hd7<|Ct.rN<|Ct.rL q13<|Ct.rF hd14<|Ct.rB q31<|Ct.rC q34<|Ct.rR,rfl,h.to,(k.less (by omega))⟩
end Go.Q9
end
section
namespace Go.Q9
open Go.Proofs.Tryz
open Go.RowKit
theorem lI(h k:Nat):∀j,j<=11->(∀i:Nat,i<j->Ct.slice h i=Ct.slice k i)->Ct.aJ h k=Ct.jJ h k (11-j) j
 |0,_,_=>rfl
 |j+1,hj,ha=>by
  rw[lI h k j (by omega) (λi hi=>ha i (by omega)),show 11-j=(11-(j+1))+1 by omega,Ct.jJ,if_pos (ha j (by omega))]
theorem He(l:List UInt8)(b:UInt8):Ct.Ly (l++[b])=Ct.qJ (Ct.Ly l) b:=by
 unfold Ct.Ly;rw[List.foldl_append,List.foldl_cons,List.foldl_nil]
theorem AY(h:Nat)(b:UInt8):Ct.qJ h b<18446744073709551616:=by
 unfold Ct.qJ;exact Nat.mod_lt _ (by omega)
theorem Ci(l:List UInt8):Ct.Ly l<18446744073709551616:=by
 rcases List.eq_nil_or_concat l with rfl|⟨l,b,rfl⟩
 ·unfold Ct.Ly;rw[List.foldl_nil];omega
 ·rw[List.concat_eq_append,He];exact AY _ _
theorem Xq(h:Nat)(b:UInt8)(hh:h<18446744073709551616):IntKind.u64.wrap (bits .xor .u64 (h:Int) (IntKind.u64.wrap (b.toNat:Int))*1099511628211)=(Ct.qJ h b:Nat):=by
 unfold Ct.qJ
 have hb:b.toNat<18446744073709551616:=Nat.lt_trans b.toNat_lt (by decide)
 rw[Jc _ hb,bits_xor_u64_nat _ _ hh hb,IntKind.wrap_u64]
 omega
theorem Mn(s:ByteArray)(k:Nat)(h:k<s.size):s.data.toList.take (k+1)=s.data.toList.take k++[s[k]]:=by
 rw[List.take_succ_eq_append_getElem (by simpa using h)];rfl
end Go.Q9
end
section
namespace Go.Q9
open Go.Proofs.Tryz
open Go.RowKit
theorem qZ(s:ByteArray)(w:World)(hs:s.size<=9223372036854775807):
  Calls prog 124 #[↑s] w λe w'=>e=.returned (.bool (Ct.bU s))/\w=w':=by
 go_enter func124,ntmps124
 go_wp2_with fail
 go_ret
 exact⟨by rw[show Ct.bU s=decide ((s.size:Int)<=64) by unfold Ct.bU;exact decide_eq_decide.2 (by omega)];rfl,rfl⟩
theorem SG(h n k:Nat)(hk:0<k)(hn:k<=n):h/64^(n-k)/64=h/64^(n-(k-1)):=by
 rw[Nat.div_div_eq_div_mul,<- Nat.pow_succ];congr 2;omega
theorem eH(h:Nat)(level:Int)(w:World)(hh:h<18446744073709551616):
  Calls prog 134 #[.int .u64 (h:Int),↑level] w λe w'=>e=.returned (.int .i64 (Ct.slice h level))/\w=w':=by
 by_cases h0:level<0
 ·have Hv:=Lib.hid (show Ct.slice h level=0 by unfold Ct.slice;rw[if_pos (.inl h0)])
  go_enter func134,ntmps134
  go_wp2_with fail
  go_ret
  exact⟨by rw[Hv.out];rfl,rfl⟩
 ·by_cases h1:10<level
  ·have Hv:=Lib.hid (show Ct.slice h level=0 by unfold Ct.slice;rw[if_pos (.inr (by omega))])
   go_enter func134,ntmps134
   go_wp2_with fail
   go_ret
   exact⟨by rw[Hv.out];rfl,rfl⟩
  ·obtain⟨n,rfl⟩:=xY (by omega:0<=level)
   have hn:n<11:=by omega
   have Hv:=Lib.hid (show Ct.slice h (n:Int)=((h/64^n%64:Nat):Int) by unfold Ct.slice;rw[if_neg (by omega)];simp)
   go_enter func134,ntmps134
   go_wp2_with fail
   go_loop [0,1] (λz l=>∃y k:Nat,k<=n/\l=.int .i64 (k:Int)/\z=.int .u64 (y:Int)/\y<18446744073709551616/\Hid (y=h/64^(n-k))) (λ_ l=>(intOf l).toNat)
   case atStart=>exact⟨h,n,bD _,rfl,rfl,hh,Lib.hid (by simp)⟩
   case round=>
    obtain⟨y,k,hk,rfl,rfl,hz,H⟩:=hrel
    by_cases hk0:0<k
    ·go_wp2_with fail
     go_round
     case rel=>exact⟨y/64,k-1,by omega,by rw[show ((k-1:Nat):Int)=(k:Int)-1 by omega],by rfl,by omega,Lib.hid (by rw[H.out];exact SG h n k hk0 hk)⟩
     case measure=>simp[intOf];omega
    ·obtain rfl:k=0:=by omega
     go_wp2_with fail
     go_ret
     exact⟨by rw[Hv.out,<- (show y=h/64^n by simpa using H.out)];rfl,rfl⟩
theorem pA(s:ByteArray)(m:Nat)(w:World)(hs:s.size<=9223372036854775807)(hm:m<18446744073709551616):
  Calls prog 138 #[↑s,.int .u64 (m:Int)] w λe w'=>e=.returned (.int .u64 (Ct.aH s m:Nat))/\w=w':=by
 go_enter func138,ntmps138
 go_wp2_with fail
 go_loop [5,6] (λh i=>∃k:Nat,k<=s.size/\i=.int .i64 (k:Int)/\h=.int .u64 (Ct.Ly (s.data.toList.take k):Nat)) (λ_ i=>s.size-(intOf i).toNat)
 case atStart=>exact⟨0,by omega,rfl,rfl⟩
 case round=>
  obtain⟨k,hk,rfl,rfl⟩:=hrel
  by_cases hlt:k<s.size
  ·have HS:=Lib.hid (Xq (Ct.Ly (s.data.toList.take k)) s[k] (Ci _))
   have HT:=Lib.hid (show Ct.Ly (s.data.toList.take (k+1))=_ by rw[Mn s k hlt,He])
   have hl:=Ci (s.data.toList.take k)
   generalize Ct.Ly (s.data.toList.take k)=h at *
   go_wp2_with fail
   go_round
   case rel=>exact⟨k+1,by omega,by go_num,by rw[HT.out,<- HS.out]⟩
   case measure=>simp[intOf];omega
  ·have HT:=Lib.hid (show Ct.aH s m=(Ct.Ly (s.data.toList.take k)&&&m) by unfold Ct.aH;rw[uZ (by simp;omega)])
   have HB:=Lib.hid (nG _ m (Ci (s.data.toList.take k)) hm)
   generalize Ct.Ly (s.data.toList.take k)=h at *
   go_wp2_with fail
   go_ret
   exact⟨by rw[HT.out,<- HB.out];rfl,rfl⟩
theorem Xn(h k:Nat)(w:World)(hh:h<18446744073709551616)(hk:k<18446744073709551616):
  Calls prog 199 #[.int .u64 (h:Int),.int .u64 (k:Int)] w λe w'=>e=.returned (.int .i64 (Ct.aJ h k:Nat))/\w=w':=by
 go_enter func199,ntmps199
 go_wp2_with fail
 go_loop [5] (λi=>∃j:Nat,j<=11/\i=.int .i64 (j:Int)/\∀n:Nat,n<j->Ct.slice h n=Ct.slice k n) (λi=>11-(intOf i).toNat)
 case atStart=>exact⟨0,by omega,rfl,λn hn=>by omega⟩
 case round=>
  obtain⟨j,hj,rfl,hrel⟩:=hrel
  have HA:=Lib.hid hrel
  clear hrel
  by_cases hlt:j<11
  ·by_cases he:Ct.slice h j=Ct.slice k j
   ·have HE:=Lib.hid he
    have q:(Ct.slice h j==Ct.slice k j)=true:=by simp[he]
    clear he
    go_wp2_with ((with_reducible refine(eH _ _ _ (by assumption)).mono ?_);rintro e w' ⟨rfl,rfl⟩)
    go_round
    case rel=>exact⟨j+1,by omega,by go_num,λn hn=>by by_cases hnj:n=j;(subst hnj;exact HE.out);exact HA.out n (by omega)⟩
    case measure=>simp[intOf];omega
   ·have HE:=Lib.hid (show Ct.aJ h k=j by rw[lI h k j hj HA.out,show 11-j=(10-j)+1 by omega,Ct.jJ,if_neg he])
    have q:(Ct.slice h j==Ct.slice k j)=false:=by simp[he]
    clear he
    go_wp2_with ((with_reducible refine(eH _ _ _ (by assumption)).mono ?_);rintro e w' ⟨rfl,rfl⟩)
    go_ret
    exact⟨by rw[HE.out];rfl,rfl⟩
  ·obtain rfl:j=11:=by omega
   have HE:=Lib.hid (show Ct.aJ h k=11 from lI h k 11 hj HA.out)
   go_wp2_with fail
   go_ret
   exact⟨by rw[HE.out];rfl,rfl⟩
end Go.Q9
end
section
namespace Go.Q9
open Go.Proofs.Tryz
open Go.RowKit
theorem Ix(b:Nat)(i:Int)(w:World)(hb:b<18446744073709551616):
  Calls prog 149 #[.int .u64 (b:Int),↑i] w λe w'=>e=.returned (.bool (Bm.has b i))/\w=w':=by
 by_cases h0:0<=i
 ·by_cases h1:i<64
  ·obtain⟨n,rfl⟩:=xY h0
   have hk:=EW b n hb
   have hv:Bm.has b (n:Int)=((((b.testBit n).toNat:Nat):Int)==1):=by
    simp only[Bm.has,h0,h1,dF]
    cases b.testBit n<;>rfl
   have Hv:=Lib.hid hv
   have hd:decide ((n:Int)<64)=true:=by simpa using h1
   clear hv
   go_enter func149,ntmps149
   go_wp2_with fail
   go_ret
   exact⟨by rw[Hv.out];rfl,rfl⟩
  ·have hv:Bm.has b i=false:=by unfold Bm.has;simp[h1]
   have Hv:=Lib.hid hv
   have hd:decide (i<64)=false:=by simpa using h1
   clear hv
   go_enter func149,ntmps149
   go_wp2_with fail
   go_ret
   exact⟨by rw[Hv.out];rfl,rfl⟩
 ·have hv:Bm.has b i=false:=by unfold Bm.has;simp[h0]
  have Hv:=Lib.hid hv
  clear hv
  go_enter func149,ntmps149
  go_wp2_with fail
  go_ret
  exact⟨by rw[Hv.out];rfl,rfl⟩
theorem FB{b:Nat}{i:Int}{v:Bool}{w:World}(hb:b<18446744073709551616)(h:Hid (Bm.has b i=v)):
  Calls prog 149 #[.int .u64 (b:Int),↑i] w λe w'=>e=.returned ↑v/\w=w':=by
 rw[<- h.out];exact Ix b i w hb
theorem WE(i:Int):Bm.cut i<=64:=by unfold Bm.cut;split;omega;split<;>omega
theorem WB{k:Nat}{i:Int}:k<Bm.cut i↔(k:Int)<64/\(k:Int)<i:=by
 unfold Bm.cut;split;omega;split<;>omega
theorem xH(b:Nat)(i:Int)(w:World)(hb:b<18446744073709551616):
  Calls prog 163 #[.int .u64 (b:Int),↑i] w λe w'=>e=.returned (.int .i64 (Bm.aO b i:Nat))/\w=w':=by
 have hc:=WE i
 have hlt:=λk=>@WB k i
 have Hlt:=Lib.hid hlt
 have Hpos:=Lib.hid (show Bm.aO b i=Bm.pop (Bm.cut i) b from rfl)
 clear hlt
 generalize Bm.cut i=c at *
 go_enter func163,ntmps163
 go_wp2_with fail
 go_loop [5,6] (λn k=>∃j:Nat,j<=c/\k=.int .i64 j/\n=.int .i64 (Bm.pop j b:Nat)) (λ_ k=>c-(intOf k).toNat)
 case atStart=>exact⟨0,Xe _,rfl,by rw[Bm.Zn];rfl⟩
 case round=>
  obtain⟨j,hj,rfl,rfl⟩:=hrel
  have hpl:=Bm.lR j b
  have hps:=Bm.cZ j b
  by_cases hjc:j<c
  ·have h12:=(Hlt.out j).1 hjc
   have h1:=h12.1
   have h2:=h12.2
   have hn:=Bm.nI b j (by omega)
   cases hbit:b.testBit j
   ·rw[hbit]at hps hn
    have Hps:=Lib.hid hps
    have Hn:=Lib.hid hn
    clear hps hn hbit h12
    go_wp2_with fail
    refine(FB hb Hn).mono ?_
    rintro e w' ⟨rfl,rfl⟩
    go_wp2_with fail
    go_round
    case rel=>exact⟨j+1,by omega,by go_num,by rw[Hps.out];rfl⟩
    case measure=>simp[intOf];omega
   ·rw[hbit]at hps hn
    have Hps:=Lib.hid hps
    have Hn:=Lib.hid hn
    clear hps hn hbit h12
    go_wp2_with fail
    refine(FB hb Hn).mono ?_
    rintro e w' ⟨rfl,rfl⟩
    go_wp2_with fail
    go_round
    case rel=>exact⟨j+1,by omega,by go_num,by rw[Hps.out];rfl⟩
    case measure=>simp[intOf];omega
  ·obtain rfl:j=c:=by omega
   have hno:¬((j:Int)<64/\(j:Int)<i):=λh=>hjc ((Hlt.out j).2 h)
   by_cases h1:(j:Int)<64
   ·have h2:¬(j:Int)<i:=λh=>hno ⟨h1,h⟩
    clear hno hps
    go_wp2_with fail
    go_ret
    exact⟨by rw[Hpos.out];rfl,rfl⟩
   ·clear hno hps
    go_wp2_with fail
    go_ret
    exact⟨by rw[Hpos.out];rfl,rfl⟩
theorem Ri{b:Nat}{i:Int}{v:Nat}{w:World}(hb:b<18446744073709551616)(h:Hid (Bm.aO b i=v)):
  Calls prog 163 #[.int .u64 (b:Int),↑i] w λe w'=>e=.returned (.int .i64 (v:Int))/\w=w':=by
 rw[<- h.out];exact xH b i w hb
theorem KO{b v:Nat}{w:World}(hb:b<18446744073709551616)(h:Hid (Bm.pop 64 b=v)):
  Calls prog 195 #[.int .u64 (b:Int)] w λe w'=>e=.returned (.int .i64 (v:Int))/\w=w':=by
 have HA:=Lib.hid (show Bm.aO b 64=v by rw[Bm.Pd];exact h.out)
 clear h
 go_enter func195,ntmps195
 go_wp2_with fail
 refine(Ri hb HA).mono ?_
 rintro e w' ⟨rfl,rfl⟩
 go_wp2_with fail
 go_ret
 exact⟨rfl,rfl⟩
theorem lT(b:Nat)(i:Int)(w:World)(hb:b<18446744073709551616):
  Calls prog 182 #[.int .u64 (b:Int),↑i] w λe w'=>e=.returned (.int .u64 (Bm.cI b i:Nat))/\w=w':=by
 by_cases h0:i<0
 ·have hv:Bm.cI b i=b:=by unfold Bm.cI;rw[if_neg (by omega)]
  have Hv:=Lib.hid hv
  clear hv
  go_enter func182,ntmps182
  go_wp2_with fail
  go_ret
  exact⟨by rw[Hv.out];rfl,rfl⟩
 ·by_cases h1:63<i
  ·have hv:Bm.cI b i=b:=by unfold Bm.cI;rw[if_neg (by omega)]
   have Hv:=Lib.hid hv
   clear hv
   go_enter func182,ntmps182
   go_wp2_with fail
   go_ret
   exact⟨by rw[Hv.out];rfl,rfl⟩
  ·have hv:Bm.cI b i=b|||2^i.toNat:=by unfold Bm.cI;rw[if_pos (by omega)]
   obtain⟨n,rfl⟩:=xY (show 0<=i by omega)
   have hn:n<64:=by omega
   have hp:=sL n hn
   rw[dF]at hv
   have Hv:=Lib.hid hv
   have hk:bits .or .u64 (b:Int) (IntKind.u64.wrap (2^n))=((b|||2^n:Nat):Int):=by
    rw[Hz n hn,bits_or_u64_nat _ _ hb hp]
   have hd:decide (63<(n:Int))=false:=by simp;omega
   clear hv hp
   go_enter func182,ntmps182
   go_wp2_with fail
   go_ret
   exact⟨by rw[Hv.out];rfl,rfl⟩
end Go.Q9
end
