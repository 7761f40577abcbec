/- Parts of a proof: Wm, Po, Aye, Pr, Ayf. -/
import Derived.Test.YtnhdmcipglnkfaaGreatW28
import Derived.Test.YtnhdmcipglnkfaaGreatW20
set_option linter.unusedVariables false
set_option linter.unusedSimpArgs false
set_option maxRecDepth 100000
set_option maxHeartbeats 4000000
section
namespace Go.Ct
variable{g:Ga}
def RU:I Result:=.alloc {kind:=3} 0 Au
def U6:I Result:=.alloc {kind:=3} 0 wJ
theorem WW(hw:GW g):Sm U6 RU g:=
 .alloc (0,0) (Hl (by decide) (by decide)) ⟨(λh=>by cases h),(λ_=>.inl rfl),λh=>by cases h⟩ λh3 YZ=>Jq YZ (fW hw rfl)
def g0:Ga:=⟨[],[],[],[],0,λ_=>False⟩
theorem gw0:GW g0:=⟨(λn h=>by cases h),(λn h=>by cases h),(λn h=>by cases h),(λn h=>by cases h),(λn h=>by cases h),.nil,rfl,rfl,λr b h=>by
 have h3:=qH (g:=g0) h.two
 have h4:=h.bX
 have e:g0.count=2:=rfl
 omega⟩
theorem aNe:oS g0 {}:=⟨rfl,rfl,rfl,(λc τ h=>by have:=lT h;have e:g0.ty.length=0:=rfl;omega),(λc h=>h.elim),λc b hc hz=>hz.elim⟩
def lY(s:St):St×aX:=
 let a:=s.alloc {kind:=3} 0
 let g:=a.1.bL
 let m:=g.1.alloc {kind:=2,gen:=g.2} a.2
 let c:=m.1.aT m.2
 (c.1,{root:=c.2})
theorem S8:cL {}:=λn h=>by cases h
theorem NC:cL (lY {}).1:=
 (cL.alloc (s:=(({}:St).alloc {kind:=3} 0).1.bL.1) (cL.alloc (s:={}) S8 (iS _) 0) (bP _ 2 _ 0 0 0) _:cL _)
theorem aO0:∃g,Mx 0 g (lY {}).1 [(lY {}).2] []:=by
 obtain⟨g',s',u,u',h1,h2,h3,h4,h5,h6⟩:=(WW gw0).head gw0 {} aNe
 have e:RU.head {}=((lY {}).1,.ret {found:=true,aF:=(lY {}).2}):=rfl
 rw[e]at h2
 obtain⟨rfl,rfl⟩:=Prod.mk.inj h2
 cases h6 with
 |ret a _ hq=>
  refine⟨g',h4,h5,NC,?_,rfl,Nat.succ_pos 0,by show 1<=5;omega,(λz m=>by cases m),aW _,by decide⟩
  intro t m
  rw[List.mem_singleton.1 m]
  rcases hq with hq|hq
  ·exact absurd hq (by decide)
  ·exact hq
theorem Mx.A5{k:Nat}{s:St}{ts:List aX}{zs:List (Nat×Ex)}{c:Call}(h:Mx k g s ts zs)(h7:7<=c.kind)(h12:c.kind<=12)(hm:c.aF∈ts)(hr:c.kind=8\/c.kind=9\/c.kind=12->c.aF.readOnly=false):nQ g c:=
 ⟨h7,.inl h12,h.SX _ hm,hr⟩
end Go.Ct
end
section
namespace Go.Ct
variable{g:Ga}
theorem QU(b:Nat):∀n p,p<Bm.pop n b->∃i,i<n/\b.testBit i=true/\Bm.pop i b=p
 |0,p,h=>absurd h (by unfold Bm.pop;omega)
 |n+1,p,h=>by
  rw[Bm.cQ]at h
  by_cases h1:p<Bm.pop n b
  ·obtain⟨i,a,c⟩:=QU b n p h1;exact⟨i,Nat.lt_succ_of_lt a,c⟩
  ·cases hb:b.testBit n with
   |false=>rw[hb]at h;simp at h;omega
   |true=>rw[hb]at h;simp at h;exact⟨n,by omega,hb,by omega⟩
theorem JF{n:Node}(h:n.oT=true){r:Int}(hr:r∈n.aA):∃k,aB n k=(r,true):=by
 obtain⟨j,hj,rfl⟩:=List.getElem_of_mem hr
 obtain⟨i,h1,h2,h3⟩:=QU n.aC 64 j (by rw[<- (iJ h).2];exact hj)
 have hh:Bm.has n.aC i=true:=by unfold Bm.has;rw[gM (show (0:Int)<=(i:Int) by omega),gM (show (i:Int)<64 by omega)];simpa using h2
 refine⟨i,?_⟩
 unfold aB
 rw[if_neg (by rw[h,hh];simp)]
 have hp:Bm.aN n.aC i=j:=by
  unfold Bm.aN Bm.cut
  by_cases h0:i=0
  ·subst h0;simpa[Bm.pop]using h3
  ·rw[if_neg (by omega),if_neg (by omega)];simpa using h3
 rw[hp,cK,fV hj];rfl
def Node.jN(n:Node):Int:=if n.kind=2 then n.main else if n.bG=true then n.prev else if n.kind=8 then n.status else 0
structure lB(s:St):Prop where
 cells:∀r∈s.cells,0<=r/\r<=((2+s.aG.length:Nat):Int)
 node:∀n∈s.aG,n.valid=true/\n.gen<=(s.gen:Int)/\(∀r∈n.aA,0<=r/\r<=((2+s.aG.length:Nat):Int))/\(0<=n.dO/\n.dO<=((2+s.aG.length:Nat):Int))/\(0<=n.aS/\n.aS<=((2+s.aG.length:Nat):Int))/\0<=n.new/\n.new<=((2+s.aG.length:Nat):Int)
 cell:∀n∈s.aG,n.bD=true->1<=n.cellOf/\n.cellOf<=(s.cells.length:Int)
 main:∀n∈s.aG,n.kind=2->n.cellOf=n.main
 prev:∀n∈s.aG,n.bG=true->n.cellOf=n.prev
 status:∀n∈s.aG,n.kind=8->n.cellOf=n.status
 sort:(s.aG.filter Node.bD).Pairwise λa b=>a.cellOf<b.cellOf
theorem lE{r:Int}(h:(g.node r).kind≠0):0<=r/\r<=((2+g.nodes.length:Nat):Int):=by
 have h1:=wD h
 have h2:=jU h
 unfold Ga.count at h2;omega
theorem mT.range{c v:Int}{τ:dD}(h:mT g c v τ):0<=v/\v<=((2+g.nodes.length:Nat):Int):=by
 cases τ with
 |root=>
   rcases h with h|h
   ·exact lE (by rw[h.1];decide)
   ·exact lE (by rw[show (g.node v).kind=8 from h];decide)
 |fixed=>exact lE (by rw[h.1];decide)
 |main b=>exact lE (by have:=mZ.two h;omega)
 |prev b=>
   rcases h with h|h|h
   ·omega
   ·exact lE (by rw[h.1.1];decide)
   ·exact lE (by have:=mZ.two h.2.1;omega)
 |status=>rcases h with h|h|h<;>omega
theorem FA{n:Node}(h:n.valid=true):(n.kind≠2->n.gen=0)/\(n.kind≠3->n.aA=[])/\(n.kind≠7->n.kind≠8->n.dO=0)/\(n.kind≠8->n.aS=0/\n.new=0):=by
 have hv:=wQ h
 have hk:=qI h
 refine⟨λk=>?_,λk=>?_,λk k'=>?_,λk=>⟨?_,?_⟩⟩<;>
  (rw[hv];unfold Node.only;repeat' split)<;>first|rfl|(exfalso;omega)
theorem If{s:St}(hw:GW g)(ht:oS g s):lB s:=by
 have hn:=ht.nodes
 have M1:∀n∈s.aG,∃b,(n,b)∈g.zip:=λn m=>QS hw (by rw[<- hn];exact m)
 refine⟨?_,?_,?_,?_,?_,?_,by rw[hn];exact hw.sort⟩
 ·intro r hr
  obtain⟨j,hj,rfl⟩:=List.getElem_of_mem hr
  have hl:=ht.len
  have hc:g.dZ (j+1)=some (g.ty[j]'(by omega)):=by
   unfold Ga.dZ
   rw[if_neg (by omega)]
   have:((j:Int)+1).toNat -1=j:=by omega
   rw[this,fV]
  have:=(ht.holds _ _ hc).range
  have e:((j:Int)+1).toNat -1=j:=by omega
  rw[e,cK,fV hj]at this
  rw[hn];exact this
 ·intro n m
  obtain⟨b,hz⟩:=M1 n m
  have ho:bT g n b:=hw.node _ hz
  have hf:=FA ho.valid
  have z0:(0:Int)<=0/\(0:Int)<=((2+g.nodes.length:Nat):Int):=by omega
  rw[hn,ht.gen]
  refine⟨ho.valid,?_,?_,?_,?_,?_⟩
  ·by_cases k:n.kind=2
   ·exact(ho.i k).1
   ·rw[hf.1 k];omega
  ·intro r hr
   by_cases k:n.kind=3
   ·obtain⟨i,hi⟩:=JF (n:=n) (by unfold Node.oT;rw[k,ho.valid];rfl) hr
    have:=(ho.c k).2.2 i (by rw[hi])
    rw[hi]at this
    rcases this with h|h
    ·exact lE (by rw[h.1];decide)
    ·exact lE (by rw[h.1];decide)
   ·rw[hf.2.1 k]at hr;cases hr
  ·by_cases k:n.kind=7
   ·exact lE (by have:=(ho.f k).two;omega)
   ·by_cases k':n.kind=8
    ·exact lE (by rw[((ho.d k').1).1];decide)
    ·rw[hf.2.2.1 k k'];exact z0
  ·by_cases k:n.kind=8
   ·exact lE (by have:=((ho.d k).2.1).two;omega)
   ·rw[(hf.2.2.2 k).1];exact z0
  ·by_cases k:n.kind=8
   ·exact lE (by rw[((ho.d k).2.2).1];decide)
   ·rw[(hf.2.2.2 k).2];exact z0
 ·intro n m hc
  obtain⟨b,hz⟩:=M1 n m
  obtain⟨τ,hτ⟩:=Od b hc
  have:=lT (hw.cell _ hz τ hτ)
  have hl:=ht.len
  dsimp only at this;omega
 ·intro n m k;obtain⟨b,hz⟩:=M1 n m;exact hw.main _ hz k
 ·intro n m k;obtain⟨b,hz⟩:=M1 n m;exact hw.prev _ hz k
 ·intro n m k;obtain⟨b,hz⟩:=M1 n m;exact hw.status _ hz k
structure RI(s:St)(n:Node):Prop where
 valid:n.valid=true
 gen:n.gen<=(s.gen:Int)
 br:∀r∈n.aA,0<=r/\r<=((2+s.aG.length:Nat):Int)
 dO:0<=n.dO/\n.dO<=((2+s.aG.length:Nat):Int)
 ex:0<=n.aS/\n.aS<=((2+s.aG.length:Nat):Int)
 nw:0<=n.new/\n.new<=((2+s.aG.length:Nat):Int)
 lo:n.bD=true->1<=n.jN/\n.jN<=(s.cells.length:Int)
theorem lB.jN{s:St}(h:lB s){n:Node}(m:n∈s.aG)(hc:n.bD=true):n.jN=n.cellOf:=by
 unfold Node.jN
 split
 ·rename_i k;exact(h.main n m k).symm
 ·split
  ·rename_i k;exact(h.prev n m k).symm
  ·split
   ·rename_i k;exact(h.status n m k).symm
   ·unfold Node.bD at hc;simp_all
theorem Fj:iH.bD=false:=by decide
theorem lB.all{s:St}(h:lB s):∀n∈iH::iH::s.aG,RI s n:=by
 have hm:RI s iH:=⟨by decide+kernel,by show (0:Int)<=_;omega,(λr hr=>by cases hr),by show (0:Int)<=0/\(0:Int)<=_;omega,by show (0:Int)<=0/\(0:Int)<=_;omega,by show (0:Int)<=0/\(0:Int)<=_;omega,λhc=>by rw[Fj]at hc;cases hc⟩
 intro n m
 rcases List.mem_cons.1 m with rfl|m
 ·exact hm
 ·rcases List.mem_cons.1 m with rfl|m
  ·exact hm
  ·obtain⟨h1,h2,h3,h4,h5,h6⟩:=h.node n m
   exact⟨h1,h2,h3,h4,h5,h6,λhc=>by rw[h.jN m hc];exact h.cell n m hc⟩
theorem lB.pJ{s:St}(h:lB s):((iH::iH::s.aG).filter Node.bD).Pairwise λa b=>a.jN<b.jN:=by
 rw[Zj,if_neg (by rw[Fj];decide),Zj,if_neg (by rw[Fj];decide)]
 refine h.sort.imp_of_mem λ{a b} ha hb hlt=>?_
 rw[List.mem_filter]at ha hb
 rw[h.jN ha.1 ha.2,h.jN hb.1 hb.2];exact hlt
def Ld(ns:List Node)(k:Nat)(bs:List Bool):Prop:=∀j,bs.getD j false=true->∃n∈ns.take k,n.bD=true/\n.jN=(j:Int)+1
theorem Ql(ns:List Node)(m:Nat):Ld ns 0 (List.replicate m false):=λj hj=>by
 rw[cK,List.getElem?_replicate]at hj
 split at hj<;>cases hj
theorem Dn{ns:List Node}{k:Nat}{bs:List Bool}(h:Ld ns k bs):Ld ns (k+1) bs:=λj hj=>by
 obtain⟨n,m,h1⟩:=h j hj
 exact⟨n,NQ (i:=k) (by rw[List.take_take,Hc (by omega)];exact m),h1⟩
theorem Su{ns:List Node}{k j:Nat}{bs:List Bool}(h:Ld ns k bs)(hk:k<ns.length)(hc:(ns.getD k {}).bD=true)(hj:(ns.getD k {}).jN -1=(j:Int)):Ld ns (k+1) (bs.set j true):=λi hi=>by
 by_cases e:i=j
 ·subst e
  refine⟨ns.getD k {},?_,hc,by omega⟩
  rw[cK,fV hk,List.take_add_one,fV hk];exact List.mem_append_right _ (List.mem_singleton_self _)
 ·refine Dn h i ?_
  rw[cK,F2 (λq=>e q.symm),<- cK]at hi;exact hi
theorem GM{ns:List Node}{k j:Nat}{bs:List Bool}(hs:(ns.filter Node.bD).Pairwise λa b=>a.jN<b.jN)(h:Ld ns k bs)(hk:k<ns.length)(hc:(ns.getD k {}).bD=true)(hj:(ns.getD k {}).jN -1=(j:Int)):bs.getD j false=false:=by
 cases hb:bs.getD j false with
 |false=>rfl
 |true=>
  obtain⟨m,hm,h1,h2⟩:=h j hb
  have e:ns.getD k {}=ns[k]:=by rw[cK,fV hk];rfl
  have KL:ns=ns.take k++ns[k]::ns.drop (k+1):=by rw[<- UM hk,i7]
  rw[e]at hc hj
  rw[KL,List.filter_append,List.pairwise_append]at hs
  have:=hs.2.2 m (List.mem_filter.2 ⟨hm,h1⟩) ns[k] (by rw[Zj,if_pos hc];exact PQ ..)
  omega
end Go.Ct
end
section
namespace Go.Q9
open Go.Proofs.Tryz
open Go.E
theorem CC:prog.underlying 123=some (.slice 4):=by kernel_rfl
end Go.Q9
end
section
namespace Go.Q9
open Go.Proofs.Tryz
open Go.RowKit Go.E
attribute [local irreducible] gA wpS Go.E.X XS C kV lL fin Y U F Ca kU bl rb aV bS ex ce pu sK gK bK zK gG fE cZ gY mA
def IY(b:Bool):List Value:=[↑b]
theorem sM(b:Bool):(IY b).length=1:=rfl
theorem AK(b:Bool):(IY b).all Value.oneCell'=true:=rfl
theorem fT{α:Type}{l:List α}{i:Nat}{d:α}(h:i<l.length):l.getD i d∈l:=by
 rw[cK,fV h];exact uY h
theorem zN{zs:List (Ct.Node×Lq)}{s:Ct.St}(h:zs.map Prod.fst=aZ s){k:Nat}(hk:k<zs.length):(zs.getD k ({},{})∈zs/\(zs.getD k ({},{})).1∈aZ s)/\k<(aZ s).length/\(zs.getD k ({},{})).1=(aZ s).getD k {}:=by
 have e:zs.getD k ({},{})=zs[k]:=by rw[cK,fV hk];rfl
 have hl:(aZ s).length=zs.length:=by rw[<- h,vX]
 refine⟨⟨fT hk,?_⟩,by omega,?_⟩
 ·rw[<- h,e];exact List.mem_map_of_mem (uY hk)
 ·rw[e,<- h,cK,AG,fV hk];rfl
theorem JN{zs:List (Ct.Node×Lq)}{s:Ct.St}(h:zs.map Prod.fst=aZ s):(zs.getD 0 ({},{})).1.kind=1/\(zs.getD 1 ({},{})).1.kind=1:=by
 have hz:=iI h
 refine⟨?_,?_⟩
 ·rw[(zN h (k:=0) (by omega)).2.2];rfl
 ·rw[(zN h (k:=1) (by omega)).2.2];rfl
variable{B w:World}{L:List As}
theorem tD(r:Int)(n:Nat)(h:SH B w (L))(hr:0<=r/\r<=(n:Int)):
  Calls prog 103 #[↑r,↑(n:Int)] w λe w'=>e=.returned ↑true/\SH B w' L:=by
 refine cN func103 ntmps103 h λw h=>?_
 refine rz ?_
 exact⟨by rw[show (decide ((r:Int)<=(n:Int)))=true from gM (by omega)],h⟩
theorem NR(n:Ct.Node)(q:Lq)(h:SH B w (L)):
  Calls prog 106 #[.agg (aK n q).toArray] w λe w'=>e=.returned (.tuple #[↑n.jN,↑n.bD])/\SH B w' L:=by
 refine cN func106 ntmps106 h λw h=>?_
 refine jX h λb1 w h=>?_
 refine qc h (λcO w h=>?_) λcO w h=>?_
 have Lt:=eq_of_beq cO
 refine go h λw h=>?_
 refine rr (iG rfl rfl rfl) ?_
 have hp:n.jN=n.main:=by unfold Ct.Node.jN;rw[if_pos (eq_of_beq cO)]
 have hh:n.bD=true:=by unfold Ct.Node.bD;rw[cO];simp
 exact⟨by rw[hp,hh],h.drop⟩
 have Tv:=bM cO
 refine go h λw h=>?_
 refine bQ (wR _ _ h.to) λw h=>?_
 refine qc h (λdM w h=>?_) λdM w h=>?_
 refine rr (iG rfl rfl rfl) ?_
 have hp:n.jN=n.prev:=by unfold Ct.Node.jN;rw[if_neg (bM cO),if_pos dM]
 have hh:n.bD=true:=by unfold Ct.Node.bD;rw[cO,dM];simp
 exact⟨by rw[hp,hh],h.drop⟩
 refine qc h (λdJ w h=>?_) λdJ w h=>?_
 have El:=eq_of_beq dJ
 refine go h λw h=>?_
 refine rr (iG rfl rfl rfl) ?_
 have hp:n.jN=n.status:=by unfold Ct.Node.jN;rw[if_neg (bM cO),if_neg (λq=>by rw[dM]at q;cases q),if_pos (eq_of_beq dJ)]
 have hh:n.bD=true:=by unfold Ct.Node.bD;rw[cO,dM,dJ];simp
 exact⟨by rw[hp,hh],h.drop⟩
 have Ua:=bM dJ
 refine go h λw h=>?_
 refine rr (iG rfl rfl rfl) ?_
 have hp:n.jN=0:=by unfold Ct.Node.jN;rw[if_neg (bM cO),if_neg (λq=>by rw[dM]at q;cases q),if_neg (bM dJ)]
 have hh:n.bD=false:=by unfold Ct.Node.bD;rw[cO,dM,dJ];simp
 exact⟨by rw[hp,hh],h.drop⟩
theorem Qe(s:Ct.St)(n:Ct.Node)(pb:Option Addr)(cb:Nat)(pp:Option Addr)(cp:Nat)(h:SH B w (aL n (⟨pb,cb,pp,cp⟩)::L))(hp:Ct.RI s n)(hb:n.aA.length<=1000000):
  Calls prog 105 #[.agg (aK n (⟨pb,cb,pp,cp⟩)).toArray,.int .i64 ((2+s.aG.length:Nat):Int)] w λe w'=>e=.returned ↑true/\SH B w' (aL n ⟨pb,cb,pp,cp⟩::L):=by
 refine cN func105 ntmps105 h λw h=>?_
 refine jX h λb1 w h=>?_
 have h:=h.fr (.c r1 .n)
 have h:=SH.se (l:=[bE n (⟨pb,cb,pp,cp⟩),cP n (⟨pb,cb,pp,cp⟩)]) h
 refine go h λw h=>?_
 refine lp (α:=Nat) (λρ=>(.c 1 (.int .i64 ((2+s.aG.length:Nat):Int)) (.c 2 ↑b1 (.c 8 (.slice pb n.aA.length cb) (.c 9 ↑(n.aA.length:Int) (.c 10 (.int .i64 (ρ:Int)) .n)))))) (λρ w=>SH B w (bS 1 (.slice pb n.aA.length cb) n.aA.length (n.aA.map (Value.int .i64))::bS 2 (.slice pp n.aH.length cp) n.aH.length (n.aH.flatMap aR)::bl b1 (aK n (⟨pb,cb,pp,cp⟩)) 53::L)/\(ρ<=n.aA.length)) (λρ=>n.aA.length-ρ) 0 ⟨rfl,rfl,rfl,rfl,rfl,trivial⟩ ⟨h,bZ _⟩ ?_
 rintro k w ⟨h,hk⟩
 refine go h λw h=>?_
 refine qc h (λcO w h=>?_) λcO w h=>?_
 have Lt:=dH cO
 refine go h λw h=>?_
 obtain⟨b4,o5,rfl⟩:=h.fq a0 (by omega)
 refine go h λw h=>?_
 refine bQ (tD _ _ h.to (hp.br _ (fT (by omega)))) λw h=>?_
 exact⟨(k+1),⟨rfl,rfl,rfl,rfl,rfl,trivial⟩,⟨h,by(try dsimp only);omega⟩,by(try dsimp only);omega⟩
 have CX:=dR cO
 refine go h λw h=>?_
 refine bQ (tD _ _ h.to hp.dO) λw h=>?_
 refine bQ (tD _ _ h.to hp.ex) λw h=>?_
 refine bQ (tD _ _ h.to hp.nw) λw h=>?_
 exact rz ⟨rfl,SH.is (l:=[bE n ⟨pb,cb,pp,cp⟩,cP n ⟨pb,cb,pp,cp⟩]) h.to⟩
theorem XQ(n:Ct.Node)(q:Lq)(h:SH B w (aL n q::L))(hv:n.valid=true)(hb:n.aA.length<=1000000)(hp:n.aH.length<=1000000000000)(hm:n.aC<18446744073709551616):
  Calls prog 104 #[.agg (aK n q).toArray] w λe w'=>e=.returned ↑true/\SH B w' (aL n q::L):=Ea n q.pb q.cb q.pp q.cp h hv hb hp hm
theorem Zd(st:Ct.St)(n:Ct.Node)(q:Lq)(m:Nat)(hm:m=2+st.aG.length)(h:SH B w (aL n q::L))(hp:Ct.RI st n)(hb:n.aA.length<=1000000):
  Calls prog 105 #[.agg (aK n q).toArray,↑(m:Int)] w λe w'=>e=.returned ↑true/\SH B w' (aL n q::L):=by
 subst hm;exact Qe st n q.pb q.cb q.pp q.cp h hp hb
theorem OQ(s:Ct.St)(zs:List (Ct.Node×Lq))(pn pc:Option Addr)(cn cc:Nat)(h:SH B w (aV 53 14 (.slice pn zs.length cn) zs.length (zs.flatMap bY)::aV 44 1 (.slice pc s.cells.length cc) s.cells.length (s.cells.map (Value.int .i64))::bH zs::L))(fC:zs.map Prod.fst=aZ s)(hp:Ct.lB s)(hf:∀n∈aZ s,n.aA.length<=1000000/\n.aH.length<=200000000000/\n.aC<18446744073709551616)(hr:s.size<=100000000000):
  Calls prog 71 #[.agg [.slice pn zs.length cn,.slice pc s.cells.length cc,↑(s.gen:Int)].toArray] w λe w'=>e=.returned ↑true/\SH B w' (aV 53 14 (.slice pn zs.length cn) zs.length (zs.flatMap bY)::aV 44 1 (.slice pc s.cells.length cc) s.cells.length (s.cells.map (Value.int .i64))::bH zs::L):=by
 have Ud:=iI fC
 have Js:s.aG.length+s.cells.length+s.gen+s.acc<=100000000000:=hr
 have K9:((aZ s).filter Ct.Node.bD).Pairwise _:=hp.pJ
 obtain⟨hk0,hk1⟩:=JN fC
 refine cN func71 ntmps71 h λw h=>?_
 refine jX h λb1 w h=>?_
 obtain⟨b2,rfl⟩:=h.fp a1 (by omega)
 refine go h λw h=>?_
 refine st (ld One.h rfl ((h.ro a1).x gH (by decide) (j:=0) (by omega) ({},{}) 0 _ rfl))<|go h λw h=>?_
 refine gT rfl rfl (xA (by omega))<|go h λw h=>?_
 refine gT rfl rfl (xA (by omega))<|go h λw h=>?_
 refine gT rfl rfl (xA (by omega))<|go h λw h=>?_
 refine gT rfl rfl (xA (by omega))<|go h λw h=>?_
 refine gT rfl rfl (xA (by omega))<|st (ld One.h rfl ((h.ro a1).x gH (by decide) (j:=1) (by omega) ({},{}) 0 _ rfl))<|gT rfl rfl (xA (by omega))<|go h λw h=>?_
 refine st (pF rfl (xA (by omega)) rfl)<|go h λw h=>?_
 refine cf rfl (xA (by omega))<|go h λw h=>?_
 refine lp (α:=Nat) (λρ=>(.c 1 ↑b1 (.c 34 (.slice pc s.cells.length cc) (.c 35 ↑(s.cells.length:Int) (.c 36 (.int .i64 (ρ:Int)) .n))))) (λρ w=>SH B w (bl b1 ([.slice (some ⟨b2,0,none⟩) zs.length cn,.slice pc s.cells.length cc,↑(s.gen:Int)]) 42::aV 53 14 (.slice (some ⟨b2,0,none⟩) zs.length cn) zs.length (zs.flatMap bY)::aV 44 1 (.slice pc s.cells.length cc) s.cells.length (s.cells.map (Value.int .i64))::bH zs::L)/\(ρ<=s.cells.length)) (λρ=>s.cells.length-ρ) 0 ⟨rfl,rfl,rfl,rfl,trivial⟩ ⟨h,bZ _⟩ ?_
 rintro k w ⟨h,hk⟩
 refine go h λw h=>?_
 refine qc h (λcJ w h=>?_) λcJ w h=>?_
 have Tv:=dH cJ
 refine go h λw h=>?_
 obtain⟨b5,rfl⟩:=h.fp a2 (by omega)
 refine go h λw h=>?_
 refine bQ (tD _ _ h.to (by have:=hp.cells _ (fT (i:=k) (l:=s.cells) (d:=0) (by omega));omega)) λw h=>?_
 exact⟨(k+1),⟨rfl,rfl,rfl,rfl,trivial⟩,⟨h,by(try dsimp only);omega⟩,by(try dsimp only);omega⟩
 have CX:=dR cJ
 refine go h λw h=>?_
 refine sf (mk h gB.h Ss.h rfl rfl (by omega) (by unfold maxLen;omega)) ?_
 rintro _ w ⟨b7,rfl,h⟩
 refine go h λw h=>?_
 rw[vO sM (by decide) (d:=false) rfl]at h
 refine go h λw h=>?_
 refine lp (α:=Nat×List Bool) (λρ=>(.c 1 ↑b1 (.c 5 (.slice (some ⟨b7,0,none⟩) s.cells.length s.cells.length) (.c 52 (.slice (some ⟨b2,0,none⟩) zs.length cn) (.c 53 ↑(zs.length:Int) (.c 54 (.int .i64 (ρ.1:Int)) .n)))))) (λρ w=>SH B w (aV 4 1 (.slice (some ⟨b7,0,none⟩) s.cells.length s.cells.length) s.cells.length (ρ.2.flatMap IY)::bl b1 ([.slice (some ⟨b2,0,none⟩) zs.length cn,.slice pc s.cells.length cc,↑(s.gen:Int)]) 42::aV 53 14 (.slice (some ⟨b2,0,none⟩) zs.length cn) zs.length (zs.flatMap bY)::aV 44 1 (.slice pc s.cells.length cc) s.cells.length (s.cells.map (Value.int .i64))::bH zs::L)/\(Ct.Ld (aZ s) ρ.1 ρ.2)/\(ρ.2.length=s.cells.length)/\(ρ.1<=zs.length)) (λρ=>zs.length-ρ.1) (0,List.replicate s.cells.length false) ⟨rfl,rfl,rfl,rfl,rfl,trivial⟩ ⟨h,(Ct.Ql _ _),(NU ..),(bZ _)⟩ ?_
 rintro⟨k,bs⟩ w ⟨h,hN,hbs,hk⟩
 dsimp only at *
 refine go h λw h=>?_
 refine qc h (λfG w h=>?_) λfG w h=>?_
 have CY:=dH fG
 refine go h λw h=>?_
 refine st (kB rfl ((h.ro a2).x gH (by decide) (by omega) ({},{})) Row.h)<|go h λw h=>?_
 refine jA h λDJ w h=>?_
 obtain⟨hm,hkn,P6⟩:=zN fC (k:=k) (by omega)
 have pQ:=hp.all _ hm.2
 have YN:=hf _ hm.2
 have hfb:=YN.1
 have hfp:=YN.2.1
 have hfm:=YN.2.2
 have h:=h.IG a5 hm.1
 refine go h λw h=>?_
 refine bQ (XQ _ _ h.to pQ.valid (by omega) (by omega) (by omega)) λw h=>?_
 refine gT rfl rfl (cI (by have:=pQ.gen;omega))<|go h λw h=>?_
 refine gT rfl rfl (cI (by have:=pQ.gen;omega))<|go h λw h=>?_
 refine gT rfl rfl (cI (by have:=pQ.gen;omega))<|go h λw h=>?_
 refine gT rfl rfl (cI (by have:=pQ.gen;omega))<|go h λw h=>?_
 refine gT rfl rfl (cI (by have:=pQ.gen;omega))<|go h λw h=>?_
 refine bQ (Zd _ _ _ _ Ud h.to pQ (by omega)) λw h=>?_
 refine gT rfl rfl (cI (by have:=pQ.gen;omega))<|go h λw h=>?_
 refine st (pF rfl (cI (by have:=pQ.gen;omega)) rfl)<|go h λw h=>?_
 refine bQ (NR _ _ h.to) λw h=>?_
 refine qc h (λiT w h=>?_) λiT w h=>?_
 have fO:=(gZ _).mp iT
 refine go h λw h=>?_
 exact⟨(k+1,bs),⟨rfl,rfl,rfl,rfl,rfl,trivial⟩,⟨h.drop.drop,(Ct.Dn hN),by(try dsimp only);omega,by(try dsimp only);omega⟩,by(try dsimp only);omega⟩
 have eJ:=(hU _).mp iT
 refine go h λw h=>?_
 refine gT rfl rfl (cI (by have:=pQ.lo eJ;omega))<|go h λw h=>?_
 refine gT rfl rfl (cI (by have:=pQ.lo eJ;omega))<|go h λw h=>?_
 refine gT rfl rfl (cI (by have:=pQ.lo eJ;omega))<|go h λw h=>?_
 refine gT rfl rfl (cI (by have:=pQ.lo eJ;omega))<|go h λw h=>?_
 refine gT rfl rfl (cI (by have:=pQ.lo eJ;omega))<|go h λw h=>?_
 refine st (pF rfl (cI (by have:=pQ.lo eJ;omega)) rfl)<|go h λw h=>?_
 refine gT rfl rfl (cI (by have:=pQ.lo eJ;omega))<|go h λw h=>?_
 refine gT rfl rfl (cI (by have:=pQ.lo eJ;omega))<|go h λw h=>?_
 refine gT rfl rfl (cI (by have:=pQ.lo eJ;omega))<|go h λw h=>?_
 obtain⟨j,hj⟩:∃j:Nat,(zs.getD k ({},{})).1.jN -1=(j:Int):=⟨((zs.getD k ({},{})).1.jN -1).toNat,by have:=pQ.lo eJ;omega⟩
 have hjl:j<s.cells.length:=by have:=pQ.lo eJ;omega
 refine st (bw rfl rfl (Jb (c:=(j:Int)) (by omega) (by omega) (by omega)))<|gT rfl rfl (cI (by have:=pQ.lo eJ;omega))<|?_
 refine st (ix (j:=j) CC MQ rfl rfl (by omega))<|?_
 refine go h λw h=>?_
 refine st (ld One.h rfl ((h.ro a2).x sM (by decide) (by omega) false 0 _ rfl))<|st (pF rfl (cI (by have:=pQ.lo eJ;omega)) rfl)<|go h λw h=>?_
 refine cf rfl (Ct.GM K9 hN hkn (by rw[<- P6];exact eJ) (by rw[<- P6];exact hj))<|go h λw h=>?_
 refine st (bw rfl rfl (Jb (c:=(j:Int)) (by omega) (by omega) (by omega)))<|?_
 refine st (ix (j:=j) CC MQ rfl rfl (by omega))<|?_
 refine go h λw h=>?_
 refine sf (sor (enc:=IY) (a:=true) h Sz.h sM AK rfl rfl rfl (by omega) (by omega) u2) ?_
 rintro _ w h
 refine go h λw h=>?_
 exact⟨(k+1,bs.set j true),⟨rfl,rfl,rfl,rfl,rfl,trivial⟩,⟨h.drop.drop,(Ct.Su hN hkn (by rw[<- P6];exact eJ) (by rw[<- P6];exact hj)),by(try dsimp only);rw[tS];omega,by(try dsimp only);omega⟩,by(try dsimp only);omega⟩
 have CW:=dR fG
 refine go h λw h=>?_
 exact rz ⟨rfl,h.drop.drop⟩
end Go.Q9
end
section
namespace Go.Q9
open Go.Proofs.Tryz
open Go.E
end Go.Q9
end
