/- Parts of a proof: Wm, Po, Aye, Pr, Ayf. -/
import Derived.Test.YtnhdmcipglnkfaaGreatW29
import Derived.Test.YtnhdmcipglnkfaaGreatW20
set_option linter.unusedVariables false
set_option linter.unusedSimpArgs false
set_option maxRecDepth 100000
set_option maxHeartbeats 4000000
section
namespace Go.Ct
variable{g:Ga}
def FY:I Result:=.alloc {kind:=3} 0 wK
def SI:I Result:=.alloc {kind:=3} 0 Bt
theorem KP(hw:GW g):Sm SI FY g:=
 .alloc (0,0) (Js (by decide) (by decide)) ⟨(λh=>by cases h),(λ_=>.inl rfl),λh=>by cases h⟩ λh3 hw3=>Ce hw3 (kQ hw rfl)
def g0:Ga:=⟨[],[],[],[],0,λ_=>False⟩
theorem D4:GW g0:=⟨(λn h=>by cases h),(λn h=>by cases h),(λn h=>by cases h),(λn h=>by cases h),(λn h=>by cases h),.nil,rfl,rfl,λr b h=>by
 have h3:=sV (g:=g0) h.two
 have h4:=h.dU
 have e:g0.count=2:=rfl
 omega⟩
theorem B9:nZ g0 {}:=⟨rfl,rfl,rfl,(λc τ h=>by have:=sR h;have e:g0.ty.length=0:=rfl;omega),(λc h=>h.elim),λc b hc hz=>hz.elim⟩
def fS(s:St):St×bC:=
 let a:=s.alloc {kind:=3} 0
 let g:=a.1.bS
 let m:=g.1.alloc {kind:=2,gen:=g.2} a.2
 let c:=m.1.aV m.2
 (c.1,{root:=c.2})
theorem TR:eK {}:=λn h=>by cases h
theorem DW:eK (fS {}).1:=
 (eK.alloc (s:=(({}:St).alloc {kind:=3} 0).1.bS.1) (eK.alloc (s:={}) TR (fY _) 0) (bG _ 2 _ 0 0 0) _:eK _)
theorem d5:∃g,Lc 0 g (fS {}).1 [(fS {}).2] []:=by
 obtain⟨g',s',u,u',h1,h2,h3,h4,h5,h6⟩:=(KP D4).head D4 {} B9
 have e:FY.head {}=((fS {}).1,.ret {found:=true,aE:=(fS {}).2}):=rfl
 rw[e]at h2
 obtain⟨rfl,rfl⟩:=Prod.mk.inj h2
 cases h6 with
 |ret a _ hq=>
  refine⟨g',h4,h5,DW,?_,rfl,Nat.succ_pos 0,by show 1<=5;omega,(λz m=>by cases m),JV _,by decide⟩
  intro t m
  rw[List.mem_singleton.1 m]
  rcases hq with hq|hq
  ·exact absurd hq (by decide)
  ·exact hq
theorem Lc.Gz{k:Nat}{s:St}{ts:List bC}{zs:List (Nat×Ex)}{c:Call}(h:Lc k g s ts zs)(h7:7<=c.kind)(h12:c.kind<=12)(hm:c.aE∈ts)(hr:c.kind=8\/c.kind=9\/c.kind=12->c.aE.readOnly=false):kZ g c:=
 ⟨h7,.inl h12,h.GO _ hm,hr⟩
end Go.Ct
end
section
namespace Go.Ct
variable{g:Ga}
theorem FE(b:Nat):∀n p,p<Bm.pop n b->∃i,i<n/\b.testBit i=true/\Bm.pop i b=p
 |0,p,h=>absurd h (by unfold Bm.pop;omega)
 |n+1,p,h=>by
  rw[Bm.cZ]at h
  by_cases h1:p<Bm.pop n b
  ·obtain⟨i,a,c⟩:=FE b n p h1;exact⟨i,Nat.lt_succ_of_lt a,c⟩
  ·cases hb:b.testBit n with
   |false=>rw[hb]at h;simp at h;omega
   |true=>rw[hb]at h;simp at h;exact⟨n,by omega,hb,by omega⟩
theorem Yj{n:Node}(h:n.lO=true){r:Int}(hr:r∈n.aA):∃k,aB n k=(r,true):=by
 obtain⟨j,hj,rfl⟩:=List.getElem_of_mem hr
 obtain⟨i,h1,h2,h3⟩:=FE n.aD 64 j (by rw[<- (kF h).2];exact hj)
 have hh:Bm.has n.aD i=true:=by unfold Bm.has;rw[mI (show (0:Int)<=(i:Int) by omega),mI (show (i:Int)<64 by omega)];simpa using h2
 refine⟨i,?_⟩
 unfold aB
 rw[if_neg (by rw[h,hh];simp)]
 have hp:Bm.aO n.aD i=j:=by
  unfold Bm.aO Bm.cut
  by_cases h0:i=0
  ·subst h0;simpa[Bm.pop]using h3
  ·rw[if_neg (by omega),if_neg (by omega)];simpa using h3
 rw[hp,dI,fM hj];rfl
def Node.gZ(n:Node):Int:=if n.kind=2 then n.main else if n.bM=true then n.prev else if n.kind=8 then n.status else 0
structure iV(s:St):Prop where
 cells:∀r∈s.cells,0<=r/\r<=((2+s.aG.length:Nat):Int)
 node:∀n∈s.aG,n.valid=true/\n.gen<=(s.gen:Int)/\(∀r∈n.aA,0<=r/\r<=((2+s.aG.length:Nat):Int))/\(0<=n.dC/\n.dC<=((2+s.aG.length:Nat):Int))/\(0<=n.aK/\n.aK<=((2+s.aG.length:Nat):Int))/\0<=n.new/\n.new<=((2+s.aG.length:Nat):Int)
 cell:∀n∈s.aG,n.cA=true->1<=n.cellOf/\n.cellOf<=(s.cells.length:Int)
 main:∀n∈s.aG,n.kind=2->n.cellOf=n.main
 prev:∀n∈s.aG,n.bM=true->n.cellOf=n.prev
 status:∀n∈s.aG,n.kind=8->n.cellOf=n.status
 sort:(s.aG.filter Node.cA).Pairwise λa b=>a.cellOf<b.cellOf
theorem iY{r:Int}(h:(g.node r).kind≠0):0<=r/\r<=((2+g.nodes.length:Nat):Int):=by
 have h1:=uA h
 have h2:=kI h
 unfold Ga.count at h2;omega
theorem kB.range{c v:Int}{τ:eY}(h:kB g c v τ):0<=v/\v<=((2+g.nodes.length:Nat):Int):=by
 cases τ with
 |root=>
   rcases h with h|h
   ·exact iY (by rw[h.1];decide)
   ·exact iY (by rw[show (g.node v).kind=8 from h];decide)
 |fixed=>exact iY (by rw[h.1];decide)
 |main b=>exact iY (by have:=oH.two h;omega)
 |prev b=>
   rcases h with h|h|h
   ·omega
   ·exact iY (by rw[h.1.1];decide)
   ·exact iY (by have:=oH.two h.2.1;omega)
 |status=>rcases h with h|h|h<;>omega
theorem Vk{n:Node}(h:n.valid=true):(n.kind≠2->n.gen=0)/\(n.kind≠3->n.aA=[])/\(n.kind≠7->n.kind≠8->n.dC=0)/\(n.kind≠8->n.aK=0/\n.new=0):=by
 have hv:=tG h
 have hk:=nF h
 refine⟨λk=>?_,λk=>?_,λk k'=>?_,λk=>⟨?_,?_⟩⟩<;>
  (rw[hv];unfold Node.only;repeat' split)<;>first|rfl|(exfalso;omega)
theorem IE{s:St}(hw:GW g)(ht:nZ g s):iV s:=by
 have hn:=ht.nodes
 have hmem:∀n∈s.aG,∃b,(n,b)∈g.zip:=λn m=>RV hw (by rw[<- hn];exact m)
 refine⟨?_,?_,?_,?_,?_,?_,by rw[hn];exact hw.sort⟩
 ·intro r hr
  obtain⟨j,hj,rfl⟩:=List.getElem_of_mem hr
  have hl:=ht.len
  have hc:g.oA (j+1)=some (g.ty[j]'(by omega)):=by
   unfold Ga.oA
   rw[if_neg (by omega)]
   have:((j:Int)+1).toNat -1=j:=by omega
   rw[this,fM]
  have:=(ht.holds _ _ hc).range
  have e:((j:Int)+1).toNat -1=j:=by omega
  rw[e,dI,fM hj]at this
  rw[hn];exact this
 ·intro n m
  obtain⟨b,hz⟩:=hmem n m
  have ho:cJ g n b:=hw.node _ hz
  have hf:=Vk ho.valid
  have z0:(0:Int)<=0/\(0:Int)<=((2+g.nodes.length:Nat):Int):=by omega
  rw[hn,ht.gen]
  refine⟨ho.valid,?_,?_,?_,?_,?_⟩
  ·by_cases k:n.kind=2
   ·exact(ho.i k).1
   ·rw[hf.1 k];omega
  ·intro r hr
   by_cases k:n.kind=3
   ·obtain⟨i,hi⟩:=Yj (n:=n) (by unfold Node.lO;rw[k,ho.valid];rfl) hr
    have:=(ho.c k).2.2 i (by rw[hi])
    rw[hi]at this
    rcases this with h|h
    ·exact iY (by rw[h.1];decide)
    ·exact iY (by rw[h.1];decide)
   ·rw[hf.2.1 k]at hr;cases hr
  ·by_cases k:n.kind=7
   ·exact iY (by have:=(ho.f k).two;omega)
   ·by_cases k':n.kind=8
    ·exact iY (by rw[((ho.d k').1).1];decide)
    ·rw[hf.2.2.1 k k'];exact z0
  ·by_cases k:n.kind=8
   ·exact iY (by have:=((ho.d k).2.1).two;omega)
   ·rw[(hf.2.2.2 k).1];exact z0
  ·by_cases k:n.kind=8
   ·exact iY (by rw[((ho.d k).2.2).1];decide)
   ·rw[(hf.2.2.2 k).2];exact z0
 ·intro n m hc
  obtain⟨b,hz⟩:=hmem n m
  obtain⟨τ,hτ⟩:=Jr b hc
  have:=sR (hw.cell _ hz τ hτ)
  have hl:=ht.len
  dsimp only at this;omega
 ·intro n m k;obtain⟨b,hz⟩:=hmem n m;exact hw.main _ hz k
 ·intro n m k;obtain⟨b,hz⟩:=hmem n m;exact hw.prev _ hz k
 ·intro n m k;obtain⟨b,hz⟩:=hmem n m;exact hw.status _ hz k
structure FO(s:St)(n:Node):Prop where
 valid:n.valid=true
 gen:n.gen<=(s.gen:Int)
 br:∀r∈n.aA,0<=r/\r<=((2+s.aG.length:Nat):Int)
 dC:0<=n.dC/\n.dC<=((2+s.aG.length:Nat):Int)
 ex:0<=n.aK/\n.aK<=((2+s.aG.length:Nat):Int)
 nw:0<=n.new/\n.new<=((2+s.aG.length:Nat):Int)
 lo:n.cA=true->1<=n.gZ/\n.gZ<=(s.cells.length:Int)
theorem iV.gZ{s:St}(h:iV s){n:Node}(m:n∈s.aG)(hc:n.cA=true):n.gZ=n.cellOf:=by
 unfold Node.gZ
 split
 ·rename_i k;exact(h.main n m k).symm
 ·split
  ·rename_i k;exact(h.prev n m k).symm
  ·split
   ·rename_i k;exact(h.status n m k).symm
   ·unfold Node.cA at hc;simp_all
theorem Bx:gY.cA=false:=by decide
theorem iV.all{s:St}(h:iV s):∀n∈gY::gY::s.aG,FO s n:=by
 have hm:FO s gY:=⟨by decide+kernel,by show (0:Int)<=_;omega,(λr hr=>by cases hr),by show (0:Int)<=0/\(0:Int)<=_;omega,by show (0:Int)<=0/\(0:Int)<=_;omega,by show (0:Int)<=0/\(0:Int)<=_;omega,λhc=>by rw[Bx]at hc;cases hc⟩
 intro n m
 rcases List.mem_cons.1 m with rfl|m
 ·exact hm
 ·rcases List.mem_cons.1 m with rfl|m
  ·exact hm
  ·obtain⟨h1,h2,h3,h4,h5,h6⟩:=h.node n m
   exact⟨h1,h2,h3,h4,h5,h6,λhc=>by rw[h.gZ m hc];exact h.cell n m hc⟩
theorem iV.kG{s:St}(h:iV s):((gY::gY::s.aG).filter Node.cA).Pairwise λa b=>a.gZ<b.gZ:=by
 rw[mD,if_neg (by rw[Bx];decide),mD,if_neg (by rw[Bx];decide)]
 refine h.sort.imp_of_mem λ{a b} ha hb hlt=>?_
 rw[List.mem_filter]at ha hb
 rw[h.gZ ha.1 ha.2,h.gZ hb.1 hb.2];exact hlt
def Eu(ns:List Node)(k:Nat)(bs:List Bool):Prop:=∀j,bs.getD j false=true->∃n∈ns.take k,n.cA=true/\n.gZ=(j:Int)+1
theorem Hf(ns:List Node)(m:Nat):Eu ns 0 (List.replicate m false):=λj hj=>by
 rw[dI,List.getElem?_replicate]at hj
 split at hj<;>cases hj
theorem yI{ns:List Node}{k:Nat}{bs:List Bool}(h:Eu ns k bs):Eu ns (k+1) bs:=λj hj=>by
 obtain⟨n,m,h1⟩:=h j hj
 exact⟨n,RD (i:=k) (by rw[List.take_take,Bq (by omega)];exact m),h1⟩
theorem Je{ns:List Node}{k j:Nat}{bs:List Bool}(h:Eu ns k bs)(hk:k<ns.length)(hc:(ns.getD k {}).cA=true)(hj:(ns.getD k {}).gZ -1=(j:Int)):Eu ns (k+1) (bs.set j true):=λi hi=>by
 by_cases e:i=j
 ·subst e
  refine⟨ns.getD k {},?_,hc,by omega⟩
  rw[dI,fM hk,List.take_add_one,fM hk];exact List.mem_append_right _ (List.mem_singleton_self _)
 ·refine yI h i ?_
  rw[dI,AD (λq=>e q.symm),<- dI]at hi;exact hi
theorem Vy{ns:List Node}{k j:Nat}{bs:List Bool}(hs:(ns.filter Node.cA).Pairwise λa b=>a.gZ<b.gZ)(h:Eu ns k bs)(hk:k<ns.length)(hc:(ns.getD k {}).cA=true)(hj:(ns.getD k {}).gZ -1=(j:Int)):bs.getD j false=false:=by
 cases hb:bs.getD j false with
 |false=>rfl
 |true=>
  obtain⟨m,hm,h1,h2⟩:=h j hb
  have e:ns.getD k {}=ns[k]:=by rw[dI,fM hk];rfl
  have hns:ns=ns.take k++ns[k]::ns.drop (k+1):=by rw[<- qR hk,RF]
  rw[e]at hc hj
  rw[hns,zE,List.pairwise_append]at hs
  have:=hs.2.2 m (List.mem_filter.2 ⟨hm,h1⟩) ns[k] (by rw[mD,if_pos hc];exact oD ..)
  omega
end Go.Ct
end
section
namespace Go.Q9
open Go.Proofs.Tryz
open Go.E
theorem CF:prog.underlying 123=some (.slice 4):=by kernel_rfl
end Go.Q9
end
section
namespace Go.Q9
open Go.Proofs.Tryz
open Go.RowKit Go.E
attribute [local irreducible] gB wpS Go.E.X XS C jU kP fin Y U F Ca jT bl rb aU bV ex ce pu sK gK bK zK gM fO dH gP nE
def RP(b:Bool):List Value:=[↑b]
theorem oN(b:Bool):(RP b).length=1:=rfl
theorem Qh(b:Bool):(RP b).all Value.oneCell'=true:=rfl
theorem fC{α:Type}{l:List α}{i:Nat}{d:α}(h:i<l.length):l.getD i d∈l:=by
 rw[dI,fM h];exact wU h
theorem pP{zs:List (Ct.Node×Lq)}{s:Ct.St}(h:zs.map Prod.fst=aW s){k:Nat}(hk:k<zs.length):(zs.getD k ({},{})∈zs/\(zs.getD k ({},{})).1∈aW s)/\k<(aW s).length/\(zs.getD k ({},{})).1=(aW s).getD k {}:=by
 have e:zs.getD k ({},{})=zs[k]:=by rw[dI,fM hk];rfl
 have hl:(aW s).length=zs.length:=by rw[<- h,PQ]
 refine⟨⟨fC hk,?_⟩,by omega,?_⟩
 ·rw[<- h,e];exact List.mem_map_of_mem (wU hk)
 ·rw[e,<- h,dI,Fb,fM hk];rfl
theorem Wb{zs:List (Ct.Node×Lq)}{s:Ct.St}(h:zs.map Prod.fst=aW s):(zs.getD 0 ({},{})).1.kind=1/\(zs.getD 1 ({},{})).1.kind=1:=by
 have hz:=iC h
 refine⟨?_,?_⟩
 ·rw[(pP h (k:=0) (by omega)).2.2];rfl
 ·rw[(pP h (k:=1) (by omega)).2.2];rfl
variable{B w:World}{L:List As}
theorem pB(r:Int)(n:Nat)(h:SH B w (L))(hr:0<=r/\r<=(n:Int)):
  Calls prog 103 #[↑r,↑(n:Int)] w λe w'=>e=.returned ↑true/\SH B w' L:=by
 refine bZ func103 ntmps103 h λw h=>?_
 refine rz ?_
 exact⟨by rw[show (decide ((r:Int)<=(n:Int)))=true from mI (by omega)],h⟩
theorem AI(n:Ct.Node)(q:Lq)(h:SH B w (L)):
  Calls prog 106 #[.agg (aL n q).toArray] w λe w'=>e=.returned (.tuple #[↑n.gZ,↑n.cA])/\SH B w' L:=by
 refine bZ func106 ntmps106 h λw h=>?_
 refine jX h λb1 w h=>?_
 refine qc h (λhd2 w h=>?_) λhd2 w h=>?_
 have hg3:=eq_of_beq hd2
 refine go h λw h=>?_
 refine rr (gE rfl rfl rfl) ?_
 have hp:n.gZ=n.main:=by unfold Ct.Node.gZ;rw[if_pos (eq_of_beq hd2)]
 have hh:n.cA=true:=by unfold Ct.Node.cA;rw[hd2];simp
 exact⟨by rw[hp,hh],h.drop⟩
 have hg4:=dP hd2
 refine go h λw h=>?_
 refine bA (tB _ _ h.to) λw h=>?_
 refine qc h (λhd5 w h=>?_) λhd5 w h=>?_
 refine rr (gE rfl rfl rfl) ?_
 have hp:n.gZ=n.prev:=by unfold Ct.Node.gZ;rw[if_neg (dP hd2),if_pos hd5]
 have hh:n.cA=true:=by unfold Ct.Node.cA;rw[hd2,hd5];simp
 exact⟨by rw[hp,hh],h.drop⟩
 refine qc h (λhd6 w h=>?_) λhd6 w h=>?_
 have hg7:=eq_of_beq hd6
 refine go h λw h=>?_
 refine rr (gE rfl rfl rfl) ?_
 have hp:n.gZ=n.status:=by unfold Ct.Node.gZ;rw[if_neg (dP hd2),if_neg (λq=>by rw[hd5]at q;cases q),if_pos (eq_of_beq hd6)]
 have hh:n.cA=true:=by unfold Ct.Node.cA;rw[hd2,hd5,hd6];simp
 exact⟨by rw[hp,hh],h.drop⟩
 have hg8:=dP hd6
 refine go h λw h=>?_
 refine rr (gE rfl rfl rfl) ?_
 have hp:n.gZ=0:=by unfold Ct.Node.gZ;rw[if_neg (dP hd2),if_neg (λq=>by rw[hd5]at q;cases q),if_neg (dP hd6)]
 have hh:n.cA=false:=by unfold Ct.Node.cA;rw[hd2,hd5,hd6];simp
 exact⟨by rw[hp,hh],h.drop⟩
theorem Ho(s:Ct.St)(n:Ct.Node)(pb:Option Addr)(cb:Nat)(pp:Option Addr)(cp:Nat)(h:SH B w (aM n (⟨pb,cb,pp,cp⟩)::L))(hp:Ct.FO s n)(hb:n.aA.length<=1000000):
  Calls prog 105 #[.agg (aL n (⟨pb,cb,pp,cp⟩)).toArray,.int .i64 ((2+s.aG.length:Nat):Int)] w λe w'=>e=.returned ↑true/\SH B w' (aM n ⟨pb,cb,pp,cp⟩::L):=by
 refine bZ func105 ntmps105 h λw h=>?_
 refine jX h λb1 w h=>?_
 have h:=h.fr (.c r1 .n)
 have h:=SH.se (l:=[aY n (⟨pb,cb,pp,cp⟩),cH n (⟨pb,cb,pp,cp⟩)]) h
 refine go h λw h=>?_
 refine lp (α:=Nat) (λρ=>(.c 1 (.int .i64 ((2+s.aG.length:Nat):Int)) (.c 2 ↑b1 (.c 8 (.slice pb n.aA.length cb) (.c 9 ↑(n.aA.length:Int) (.c 10 (.int .i64 (ρ:Int)) .n)))))) (λρ w=>SH B w (bV 1 (.slice pb n.aA.length cb) n.aA.length (n.aA.map (Value.int .i64))::bV 2 (.slice pp n.aF.length cp) n.aF.length (n.aF.flatMap aR)::bl b1 (aL n (⟨pb,cb,pp,cp⟩)) 53::L)/\(ρ<=n.aA.length)) (λρ=>n.aA.length-ρ) 0 ⟨rfl,rfl,rfl,rfl,rfl,trivial⟩ ⟨h,dF _⟩ ?_
 rintro k w ⟨h,hk⟩
 refine go h λw h=>?_
 refine qc h (λhd2 w h=>?_) λhd2 w h=>?_
 have hg3:=eC hd2
 refine go h λw h=>?_
 obtain⟨b4,o5,rfl⟩:=h.fq a0 (by omega)
 refine go h λw h=>?_
 refine bA (pB _ _ h.to (hp.br _ (fC (by omega)))) λw h=>?_
 exact⟨(k+1),⟨rfl,rfl,rfl,rfl,rfl,trivial⟩,⟨h,by(try dsimp only);omega⟩,by(try dsimp only);omega⟩
 have hg6:=cW hd2
 refine go h λw h=>?_
 refine bA (pB _ _ h.to hp.dC) λw h=>?_
 refine bA (pB _ _ h.to hp.ex) λw h=>?_
 refine bA (pB _ _ h.to hp.nw) λw h=>?_
 exact rz ⟨rfl,SH.is (l:=[aY n ⟨pb,cb,pp,cp⟩,cH n ⟨pb,cb,pp,cp⟩]) h.to⟩
theorem KX(n:Ct.Node)(q:Lq)(h:SH B w (aM n q::L))(hv:n.valid=true)(hb:n.aA.length<=1000000)(hp:n.aF.length<=1000000000000)(hm:n.aD<18446744073709551616):
  Calls prog 104 #[.agg (aL n q).toArray] w λe w'=>e=.returned ↑true/\SH B w' (aM n q::L):=xX n q.pb q.cb q.pp q.cp h hv hb hp hm
theorem BR(st:Ct.St)(n:Ct.Node)(q:Lq)(m:Nat)(hm:m=2+st.aG.length)(h:SH B w (aM n q::L))(hp:Ct.FO st n)(hb:n.aA.length<=1000000):
  Calls prog 105 #[.agg (aL n q).toArray,↑(m:Int)] w λe w'=>e=.returned ↑true/\SH B w' (aM n q::L):=by
 subst hm;exact Ho st n q.pb q.cb q.pp q.cp h hp hb
theorem CD(s:Ct.St)(zs:List (Ct.Node×Lq))(pn pc:Option Addr)(cn cc:Nat)(h:SH B w (aU 53 14 (.slice pn zs.length cn) zs.length (zs.flatMap cB)::aU 44 1 (.slice pc s.cells.length cc) s.cells.length (s.cells.map (Value.int .i64))::bE zs::L))(hzs:zs.map Prod.fst=aW s)(hp:Ct.iV s)(hf:∀n∈aW s,n.aA.length<=1000000/\n.aF.length<=200000000000/\n.aD<18446744073709551616)(hr:s.size<=100000000000):
  Calls prog 71 #[.agg [.slice pn zs.length cn,.slice pc s.cells.length cc,↑(s.gen:Int)].toArray] w λe w'=>e=.returned ↑true/\SH B w' (aU 53 14 (.slice pn zs.length cn) zs.length (zs.flatMap cB)::aU 44 1 (.slice pc s.cells.length cc) s.cells.length (s.cells.map (Value.int .i64))::bE zs::L):=by
 have hz2:=iC hzs
 have hrm:s.aG.length+s.cells.length+s.gen+s.acc<=100000000000:=hr
 have hsort:((aW s).filter Ct.Node.cA).Pairwise _:=hp.kG
 obtain⟨hk0,hk1⟩:=Wb hzs
 refine bZ func71 ntmps71 h λw h=>?_
 refine jX h λb1 w h=>?_
 obtain⟨b2,rfl⟩:=h.fp a1 (by omega)
 refine go h λw h=>?_
 refine st (ld One.h rfl ((h.ro a1).x fN (by decide) (j:=0) (by omega) ({},{}) 0 _ rfl))<|go h λw h=>?_
 refine gT rfl rfl (oE (by omega))<|go h λw h=>?_
 refine gT rfl rfl (oE (by omega))<|go h λw h=>?_
 refine gT rfl rfl (oE (by omega))<|go h λw h=>?_
 refine gT rfl rfl (oE (by omega))<|go h λw h=>?_
 refine gT rfl rfl (oE (by omega))<|st (ld One.h rfl ((h.ro a1).x fN (by decide) (j:=1) (by omega) ({},{}) 0 _ rfl))<|gT rfl rfl (oE (by omega))<|go h λw h=>?_
 refine st (pF rfl (oE (by omega)) rfl)<|go h λw h=>?_
 refine cf rfl (oE (by omega))<|go h λw h=>?_
 refine lp (α:=Nat) (λρ=>(.c 1 ↑b1 (.c 34 (.slice pc s.cells.length cc) (.c 35 ↑(s.cells.length:Int) (.c 36 (.int .i64 (ρ:Int)) .n))))) (λρ w=>SH B w (bl b1 ([.slice (some ⟨b2,0,none⟩) zs.length cn,.slice pc s.cells.length cc,↑(s.gen:Int)]) 42::aU 53 14 (.slice (some ⟨b2,0,none⟩) zs.length cn) zs.length (zs.flatMap cB)::aU 44 1 (.slice pc s.cells.length cc) s.cells.length (s.cells.map (Value.int .i64))::bE zs::L)/\(ρ<=s.cells.length)) (λρ=>s.cells.length-ρ) 0 ⟨rfl,rfl,rfl,rfl,trivial⟩ ⟨h,dF _⟩ ?_
 rintro k w ⟨h,hk⟩
 refine go h λw h=>?_
 refine qc h (λhd3 w h=>?_) λhd3 w h=>?_
 have hg4:=eC hd3
 refine go h λw h=>?_
 obtain⟨b5,rfl⟩:=h.fp a2 (by omega)
 refine go h λw h=>?_
 refine bA (pB _ _ h.to (by have:=hp.cells _ (fC (i:=k) (l:=s.cells) (d:=0) (by omega));omega)) λw h=>?_
 exact⟨(k+1),⟨rfl,rfl,rfl,rfl,trivial⟩,⟨h,by(try dsimp only);omega⟩,by(try dsimp only);omega⟩
 have hg6:=cW hd3
 refine go h λw h=>?_
 refine sf (mk h fR.h Ss.h rfl rfl (by omega) (by unfold maxLen;omega)) ?_
 rintro _ w ⟨b7,rfl,h⟩
 refine go h λw h=>?_
 rw[rV oN (by decide) (d:=false) rfl]at h
 refine go h λw h=>?_
 refine lp (α:=Nat×List Bool) (λρ=>(.c 1 ↑b1 (.c 5 (.slice (some ⟨b7,0,none⟩) s.cells.length s.cells.length) (.c 52 (.slice (some ⟨b2,0,none⟩) zs.length cn) (.c 53 ↑(zs.length:Int) (.c 54 (.int .i64 (ρ.1:Int)) .n)))))) (λρ w=>SH B w (aU 4 1 (.slice (some ⟨b7,0,none⟩) s.cells.length s.cells.length) s.cells.length (ρ.2.flatMap RP)::bl b1 ([.slice (some ⟨b2,0,none⟩) zs.length cn,.slice pc s.cells.length cc,↑(s.gen:Int)]) 42::aU 53 14 (.slice (some ⟨b2,0,none⟩) zs.length cn) zs.length (zs.flatMap cB)::aU 44 1 (.slice pc s.cells.length cc) s.cells.length (s.cells.map (Value.int .i64))::bE zs::L)/\(Ct.Eu (aW s) ρ.1 ρ.2)/\(ρ.2.length=s.cells.length)/\(ρ.1<=zs.length)) (λρ=>zs.length-ρ.1) (0,List.replicate s.cells.length false) ⟨rfl,rfl,rfl,rfl,rfl,trivial⟩ ⟨h,(Ct.Hf _ _),(List.length_replicate ..),(dF _)⟩ ?_
 rintro⟨k,bs⟩ w ⟨h,hN,hbs,hk⟩
 dsimp only at *
 refine go h λw h=>?_
 refine qc h (λhd8 w h=>?_) λhd8 w h=>?_
 have hg9:=eC hd8
 refine go h λw h=>?_
 refine st (gJ rfl ((h.ro a2).x fN (by decide) (by omega) ({},{})) Row.h)<|go h λw h=>?_
 refine jA h λb10 w h=>?_
 obtain⟨hm,hkn,hnd⟩:=pP hzs (k:=k) (by omega)
 have hpn:=hp.all _ hm.2
 have hfn:=hf _ hm.2
 have hfb:=hfn.1
 have hfp:=hfn.2.1
 have hfm:=hfn.2.2
 have h:=h.Ll a5 hm.1
 refine go h λw h=>?_
 refine bA (KX _ _ h.to hpn.valid (by omega) (by omega) (by omega)) λw h=>?_
 refine gT rfl rfl (Ab (by have:=hpn.gen;omega))<|go h λw h=>?_
 refine gT rfl rfl (Ab (by have:=hpn.gen;omega))<|go h λw h=>?_
 refine gT rfl rfl (Ab (by have:=hpn.gen;omega))<|go h λw h=>?_
 refine gT rfl rfl (Ab (by have:=hpn.gen;omega))<|go h λw h=>?_
 refine gT rfl rfl (Ab (by have:=hpn.gen;omega))<|go h λw h=>?_
 refine bA (BR _ _ _ _ hz2 h.to hpn (by omega)) λw h=>?_
 refine gT rfl rfl (Ab (by have:=hpn.gen;omega))<|go h λw h=>?_
 refine st (pF rfl (Ab (by have:=hpn.gen;omega)) rfl)<|go h λw h=>?_
 refine bA (AI _ _ h.to) λw h=>?_
 refine qc h (λhd11 w h=>?_) λhd11 w h=>?_
 have hd12:=(lC _).mp hd11
 refine go h λw h=>?_
 exact⟨(k+1,bs),⟨rfl,rfl,rfl,rfl,rfl,trivial⟩,⟨h.drop.drop,(Ct.yI hN),by(try dsimp only);omega,by(try dsimp only);omega⟩,by(try dsimp only);omega⟩
 have hd13:=(bI _).mp hd11
 refine go h λw h=>?_
 refine gT rfl rfl (Ab (by have:=hpn.lo hd13;omega))<|go h λw h=>?_
 refine gT rfl rfl (Ab (by have:=hpn.lo hd13;omega))<|go h λw h=>?_
 refine gT rfl rfl (Ab (by have:=hpn.lo hd13;omega))<|go h λw h=>?_
 refine gT rfl rfl (Ab (by have:=hpn.lo hd13;omega))<|go h λw h=>?_
 refine gT rfl rfl (Ab (by have:=hpn.lo hd13;omega))<|go h λw h=>?_
 refine st (pF rfl (Ab (by have:=hpn.lo hd13;omega)) rfl)<|go h λw h=>?_
 refine gT rfl rfl (Ab (by have:=hpn.lo hd13;omega))<|go h λw h=>?_
 refine gT rfl rfl (Ab (by have:=hpn.lo hd13;omega))<|go h λw h=>?_
 refine gT rfl rfl (Ab (by have:=hpn.lo hd13;omega))<|go h λw h=>?_
 obtain⟨j,hj⟩:∃j:Nat,(zs.getD k ({},{})).1.gZ -1=(j:Int):=⟨((zs.getD k ({},{})).1.gZ -1).toNat,by have:=hpn.lo hd13;omega⟩
 have hjl:j<s.cells.length:=by have:=hpn.lo hd13;omega
 refine st (bw rfl rfl (zW (c:=(j:Int)) (by omega) (by omega) (by omega)))<|gT rfl rfl (Ab (by have:=hpn.lo hd13;omega))<|?_
 refine st (ix (j:=j) CF AU rfl rfl (by omega))<|?_
 refine go h λw h=>?_
 refine st (ld One.h rfl ((h.ro a2).x oN (by decide) (by omega) false 0 _ rfl))<|st (pF rfl (Ab (by have:=hpn.lo hd13;omega)) rfl)<|go h λw h=>?_
 refine cf rfl (Ct.Vy hsort hN hkn (by rw[<- hnd];exact hd13) (by rw[<- hnd];exact hj))<|go h λw h=>?_
 refine st (bw rfl rfl (zW (c:=(j:Int)) (by omega) (by omega) (by omega)))<|?_
 refine st (ix (j:=j) CF AU rfl rfl (by omega))<|?_
 refine go h λw h=>?_
 refine sf (ZB (enc:=RP) (a:=true) h Sz.h oN Qh rfl rfl rfl (by omega) (by omega) u2) ?_
 rintro _ w h
 refine go h λw h=>?_
 exact⟨(k+1,bs.set j true),⟨rfl,rfl,rfl,rfl,rfl,trivial⟩,⟨h.drop.drop,(Ct.Je hN hkn (by rw[<- hnd];exact hd13) (by rw[<- hnd];exact hj)),by(try dsimp only);rw[uZ];omega,by(try dsimp only);omega⟩,by(try dsimp only);omega⟩
 have hg14:=cW hd8
 refine go h λw h=>?_
 exact rz ⟨rfl,h.drop.drop⟩
end Go.Q9
end
section
namespace Go.Q9
open Go.Proofs.Tryz
open Go.E
theorem D3:xA prog 42=some 3:=by kernel_rfl
theorem Z2:(prog.info? 42).map (·.size)=some 3:=by kernel_rfl
theorem T':zc prog 42=some [.slice none 0 0,.slice none 0 0,.int .i64 0]:=by kernel_rfl
end Go.Q9
end
