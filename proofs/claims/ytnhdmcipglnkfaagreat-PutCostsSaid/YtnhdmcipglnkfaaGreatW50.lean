/- Parts of a proof: Ayx, Wt, Fx, Gp. -/
import Derived.Test.YtnhdmcipglnkfaaGreatW49
set_option linter.unusedVariables false
set_option linter.unusedSimpArgs false
set_option maxRecDepth 100000
set_option maxHeartbeats 4000000
section
namespace Go.Q9
open Go.Proofs.Tryz
open Go.E
end Go.Q9
end
section
namespace Go.Q9
open Go.Proofs.Tryz
open Go.RowKit Go.E
attribute [local irreducible] gA wpS Go.E.X XS C kV lL fin Y U F Ca kU bl rb aV bS ex ce pu sK gK bK zK gG fE cZ gY mA rQ
variable{B w:World}{L:List As}
theorem aF2(ab:Nat)(c:Ct.Call)(s:Ct.St)(h:SH B w ((iB ab).a s::L))(hk:c.kind=8)(hs:Ct.Rm 60 s)(vE:c.key.size<=9223372036854775807)(YQ:c.aI<18446744073709551616):Calls prog 63 #[(iB ab).v,.agg (dV c.aF).toArray,.int .u64 (c.aI:Int),↑c.key,.int .u64 (c.value:Int),↑c.bF,.int .u64 (c.expect:Int)] w λe w'=>∃tb,e=.returned (.pointer (some ⟨tb,0,none⟩))/\SH B w' (nM (iB ab) 99999999 tb ((Ct.jC c Ct.FU).head s).2 0::(iB ab).a ((Ct.jC c Ct.FU).head s).1::L):=by
 refine(SW (iB ab) 99999999 c s h hs vE YQ (by decide)).mono ?_
 rintro e w' ⟨tb,s',u,hq,rfl,h⟩
 have e0:(Ct.jC c Ct.FU).head s=(s',u):=by
  unfold Ct.jC
  rw[hk,if_neg (by decide),if_pos (by decide)]
  exact hq
 rw[e0]
 exact⟨tb,rfl,h⟩
end Go.Q9
end
section
namespace Go.Ct
variable{g:Ga}
structure aI9(S0:St)(t:I Result)(q:Bool)(ex:Prop)(z:Nat):Prop where
 le:z<=31
 run:∀i,i<z->(alone (t.head S0).1 (t.head S0).2 i).2.ended.isSome=false
 fin:(alone (t.head S0).1 (t.head S0).2 z).2.ended.isSome=true
 rm:∀i,i<=z->Rm 101 (alone (t.head S0).1 (t.head S0).2 i).1
 low:S0.aG.length<=(alone (t.head S0).1 (t.head S0).2 z).1.aG.length
 xT:(alone (t.head S0).1 (t.head S0).2 z).1.aG.length<=S0.aG.length+8
 quiet:q=true->z<=9/\(alone (t.head S0).1 (t.head S0).2 z).1.aG.length<=S0.aG.length+3/\(ex->z=9/\(alone (t.head S0).1 (t.head S0).2 z).1.aG.length=S0.aG.length+3)
theorem aI9.of{S0:St}{t:I Result}{q:Bool}{ex:Prop}{Q:Result->St->Prop}{n:Nat}(hf:cL S0)(hz:S0.size<=80000000000)(h:t.Al Q n 8 S0)(hn:n<=31)(hQ:q=true->∀r s',Q r s'->s'.acc<=S0.acc+9/\s'.aG.length<=S0.aG.length+3/\(ex->s'.acc=S0.acc+9/\s'.aG.length=S0.aG.length+3)):∃z,aI9 S0 t q ex z:=by
 obtain⟨i,hi,hG,hr,ha⟩:=Al.head h
 obtain⟨z,hzn,hg,Hw,r,e1,e2,e3⟩:=Al.run n (8-i) _ _ ha hr
 have a1:=hG.nodes;have a2:=hG.more;have a3:=hG.size;have a4:=hG.acc
 have Tx:=hg z (aW z)
 have b1:=Tx.nodes;have b2:=Tx.more
 refine⟨z,by omega,Hw,by rw[e1];rfl,λk hk=>?_,by omega,by omega,λhq=>?_⟩
 ·have c:=hg k hk
  have c3:=c.size
  exact⟨c.fit (hG.fit hf),by unfold cW;omega⟩
 ·obtain⟨d1,d2,d3⟩:=hQ hq r _ e2
  exact⟨by omega,d2,λhx=>⟨by have:=(d3 hx).1;omega,(d3 hx).2⟩⟩
def aE1(s:St)(t:aX):Prop:=(rootOf s t).2=true/\(s.load (s.node (s.load (s.node (rootOf s t).1).main).2).prev).2=0/\(s.node (s.load t.root).2).kind=2
theorem aBv{s:St}(hT:Tw g s)(r:Int)(hk:(s.node r).kind=3):(s.node r).aA.length=Bm.pop 64 (s.node r).aC:=by
 rw[hT.gC.node]at hk ⊢
 have hn:=hT.gw.of (r:=r) (by rw[hk];decide)
 exact Aq (by unfold Node.oT;rw[hk,hn.valid];rfl)
theorem GF{s:St}{i:Int}(h:(cX s i).2=true):(s.node i).kind=2/\(s.node (cX s i).1).bG=true:=by
 unfold cX at h ⊢
 cases h1:(s.node i).kind != 2 with
 |true=>rw[h1]at h;cases h
 |false=>
  rw[h1]at h
  simp only[fN]at h ⊢
  cases h2:(s.node (wB s i)).bG with
  |false=>rw[h2]at h;cases h
  |true=>
   rw[h2]at h
   simp only[xX,fN]at h ⊢
   refine⟨by simpa using h1,?_⟩
   cases h3:rZ s i==0 with
   |true=>exact h2
   |false=>
    rw[h3]at h
    simp only[fN]at h ⊢
    cases h4:(s.node (Ch s i)).bG with
    |false=>rw[h4]at h;cases h
    |true=>exact h4
theorem Bd{s:St}(hf:cL s)(hz:s.size<=740000)(r:Int):(s.node r).aC<18446744073709551616/\(s.node r).aH.length<=1000000:=by
 have h:=hf.node r
 exact⟨h.1.2.2.1,kR h.1.2.1 (by unfold St.size at hz;omega)⟩
end Go.Ct
end
section
namespace Go.Ct
variable{g:Ga}{c:Call}
def cn(k:Int)(l:List Node):Nat:=l.countP λn=>n.kind==k
structure Mk(l:List Node)(C I S L:Nat):Prop where
 nc:cn 3 l<=C
 ni:cn 2 l<=I
 ns:cn 4 l<=S
 nl:cn 6 l<=L
 nt:cn 5 l=0
 nf:cn 7 l=0
 nk:∀x∈l,0<=x.kind/\x.kind<10
theorem Dg(k:Int)(a b:List Node):cn k (a++b)=cn k a+cn k b:=List.countP_append ..
theorem Df(k:Int)(n:Node):cn k [n]=if n.kind=k then 1 else 0:=by
 unfold cn;rw[List.countP_cons,List.countP_nil];by_cases h:n.kind=k<;>simp[h]
theorem Mk.nil:Mk [] 0 0 0 0:=⟨aW _,aW _,aW _,aW _,rfl,rfl,λn h=>by cases h⟩
theorem Mk.P3{a b:List Node}{C I S L C' I' S' L':Nat}(h:Mk a C I S L)(k:Mk b C' I' S' L'):Mk (a++b) (C+C') (I+I') (S+S') (L+L'):=
 ⟨by rw[Dg];exact Nat.add_le_add h.nc k.nc,by rw[Dg];exact Nat.add_le_add h.ni k.ni,by rw[Dg];exact Nat.add_le_add h.ns k.ns,by rw[Dg];exact Nat.add_le_add h.nl k.nl,by rw[Dg,h.nt,k.nt],by rw[Dg,h.nf,k.nf],λn m=>by
  rcases List.mem_append.1 m with m|m
  ·exact h.nk n m
  ·exact k.nk n m⟩
theorem Mk.mono{l:List Node}{C I S L C' I' S' L':Nat}(h:Mk l C I S L)(hc:C<=C')(hi:I<=I')(hs:S<=S')(hl:L<=L'):Mk l C' I' S' L':=
 ⟨kR h.nc hc,kR h.ni hi,kR h.ns hs,kR h.nl hl,h.nt,h.nf,h.nk⟩
theorem mk_one{n:Node}{k:Int}(h:n.kind=k)(h2:k=2\/k=3\/k=4\/k=6):Mk [n] (if k=3 then 1 else 0) (if k=2 then 1 else 0) (if k=4 then 1 else 0) (if k=6 then 1 else 0):=by
 refine⟨?_,?_,?_,?_,?_,?_,λm hm=>?_⟩
 ·rw[Df,h];exact aW _
 ·rw[Df,h];exact aW _
 ·rw[Df,h];exact aW _
 ·rw[Df,h];exact aW _
 ·rw[Df,h,if_neg (by omega)]
 ·rw[Df,h,if_neg (by omega)]
 ·rw[List.mem_singleton.1 hm,h];omega
def Kq(A:List Node)(s:St)(C I S L:Nat):Prop:=∃ys,s.aG=A++ys/\Mk ys C I S L
theorem Kq.same{A:List Node}{s s':St}{C I S L:Nat}(h:Kq A s C I S L)(e:s'.aG=s.aG):Kq A s' C I S L:=by
 obtain⟨ys,h1,h2⟩:=h
 exact⟨ys,by rw[e];exact h1,h2⟩
theorem Kq.more{A:List Node}{s s':St}{C I S L C' I' S' L':Nat}{zs:List Node}(h:Kq A s C I S L)(e:s'.aG=s.aG++zs)(k:Mk zs C' I' S' L'):Kq A s' (C+C') (I+I') (S+S') (L+L'):=by
 obtain⟨ys,h1,h2⟩:=h
 exact⟨ys++zs,by rw[e,h1,zA],h2.P3 k⟩
theorem Kq.mono{A:List Node}{s:St}{C I S L C' I' S' L':Nat}(h:Kq A s C I S L)(hc:C<=C')(hi:I<=I')(hs:S<=S')(hl:L<=L'):Kq A s C' I' S' L':=by
 obtain⟨ys,h1,h2⟩:=h
 exact⟨ys,h1,h2.mono hc hi hs hl⟩
theorem Uc{n:Node}{x:Int}(h:n.kind=2):Mk [n.stored x] 0 1 0 0:=mk_one (k:=2) (by rw[dB];exact h) (.inl rfl)
theorem mk3{n:Node}{x:Int}(h:n.kind=3):Mk [n.stored x] 1 0 0 0:=mk_one (k:=3) (by rw[dB];exact h) (.inr (.inl rfl))
theorem mk4{n:Node}{x:Int}(h:n.kind=4):Mk [n.stored x] 0 0 1 0:=mk_one (k:=4) (by rw[dB];exact h) (.inr (.inr (.inl rfl)))
theorem mk6{n:Node}{x:Int}(h:n.kind=6):Mk [n.stored x] 0 0 0 1:=mk_one (k:=6) (by rw[dB];exact h) (.inr (.inr (.inr rfl)))
theorem Om{n:Node}{i r:Int}(h:(aM n i r).2=true):(aM n i r).1.kind=3:=by
 unfold aM at h ⊢
 repeat' split at h
 all_goals first|(cases h;done)|(repeat' split)<;>first|rfl|contradiction
theorem ZU{n:Node}{i r:Int}(h:(aO n i r).2=true):(aO n i r).1.kind=3:=by
 unfold aO at h ⊢
 repeat' split at h
 all_goals first|(cases h;done)|(repeat' split)<;>first|rfl|contradiction
theorem Ww{n:Node}{i r:Int}(h:2<=(aO n i r).1.kind):(aO n i r).1.kind=3:=by
 unfold aO at h ⊢
 split
 ·rename_i hq;rw[if_pos hq]at h;exact absurd h (by decide)
 ·rfl
def Ga.Vh(g:Ga)(s:St):Ga:={g with dec:=λd=>g.dec d\/∃c b,d=-c/\g.dZ c=some (.prev b)/\rd s c=0}
theorem Nf{s:St}(hw:GW g):Ge g (g.Vh s):=⟨xI _,xI _,xI _,xI _,aW _,λ_ h=>.inl h,hw.Ak⟩
theorem H'{s:St}(h:GW g):GW (g.Vh s):=
 ⟨λm hm=>(h.node m hm).ge (Nf h),h.cell,h.main,h.prev,h.status,h.sort,h.len,h.Ak,λr b hr h0=>(h.DL r b hr h0).ge (Nf h)⟩
theorem X9{s:St}{c:Int}(h:s.bD c=true):rd s c=s.cells.getD (c.toNat-1) 0:=by unfold rd St.load;dsimp only;rw[if_pos h]
theorem X8{s:St}(hT:Tw g s):Tw (g.Vh s) s:=by
 have xY:=Nf (s:=s) hT.gw
 refine⟨H' hT.gw,hT.gC.nodes,hT.gC.gen,hT.gC.len,λd σ hd=>?_,λd hd=>?_,λd b' hd hz=>?_⟩
 ·have ZJ:=lT (g:=g) hd
  refine(hT.gC.holds d σ hd).ge xY hT.gw hd λLv=>.inl ?_
  rcases Lv with Lv|⟨c,b,e,hc,_⟩
  ·exact Lv
  ·have:=lT hc;omega
 ·rcases hd with hd|⟨c,b,e,hc,_⟩
  ·exact hT.gC.dec d hd
  ·have:=lT hc
   show d<=(g.ty.length:Int)/\-d<=(g.ty.length:Int);omega
 ·rcases hz with hz|⟨c,b,e,hc,h0⟩
  ·exact hT.gC.DL d b' hd hz
  ·obtain rfl:d=c:=by omega
   rw[X9 (hT.has hc)]at h0
   exact h0
theorem aCx{s:St}{m:Int}{b:eC}(hw:GW g)(hm:mZ g m b)(h:rd s (g.node m).prev=0):rU (g.Vh s) m b:=⟨hm,.inr ⟨_,b,rfl,hw.oH hm,h⟩⟩
def MS(s:St)(i:Int):Int:=rd s (s.node i).main
structure Cq(s:St)(P:Int->Prop):Prop where
 prev:∀i,P i->rd s (s.node (MS s i)).prev=0
 aO9:∀i,P i->(s.node (MS s i)).kind≠5
 next:∀i,P i->∀ix,(aB (s.node (MS s i)) ix).2=true->(s.node (aB (s.node (MS s i)) ix).1).kind=2->P (aB (s.node (MS s i)) ix).1
def Kpl(g0:Ga)(s0:St)(P:Int->Prop)(l:Nat)(s:St):Prop:=∀j b,P j->fH g0 j b->l<b.1->rd s (g0.node j).main=MS s0 j
theorem T6{s:St}(hT:Tw g s){n:Node}{i:Int}{b:eC}(h2:n.kind=2):rd (s.alloc n i).1 ((g.alloc n i b).node (g.nodes.length+3)).main=i:=by
 have e:((g.alloc n i b).node (g.nodes.length+3)).main=(g.ty.length:Int)+1:=by rw[eG];unfold Node.stored;rw[if_pos h2]
 have ec:=mV s n i b
 have et:n.gQ b=some (.main b):=by unfold Node.gQ;rw[if_pos h2]
 have el:=hT.gC.len
 rw[e]
 have hh:(s.alloc n i).1.bD ((g.ty.length:Int)+1)=true:=by unfold St.bD;rw[ec,et];simp;omega
 unfold rd St.load
 dsimp only
 rw[if_pos hh,ec,et,cK,tN (by omega),show ((g.ty.length:Int)+1).toNat -1-s.cells.length=0 by omega];rfl
def QF(A:List Node)(_:Result)(s:St):Prop:=Kq A s 13 12 2 1
theorem SC{A:List Node}{again:I Result}{s:St}{b:eC}{r i m:Int}{n:Node×Bool}{f:Bool}{v:Nat}(hT:Tw g s)(hk:Tk g c.aF)(eR:c.aF.readOnly=false)(hA:At g s c.aF b r i m)(hL:Ls (Ci c again i m n f v) g)(hf:∀b,bT g n.1 b->cL s->n.1.Fit (s.aG.length+1))(h0:Kq A s 13 12 2 1)(h1:∀s' x,s'.aG=s.aG++[n.1.stored x]->n.2=true->Kq A s' 13 12 2 1):(Ci c again i m n f v).Al (QF A) 5 1 s:=by
 obtain⟨n1,n2⟩:=n
 cases n2 with
 |false=>exact h0
 |true=>
  have hL:Ls (I.alloc n1 m λx=>swapT c.aF i m x λok=>bif !ok then again else .ret (dL f v)) g:=hL
  obtain⟨b2,hN,hJ,sR⟩:=hL.alloc hT.gw
  obtain⟨hM,_⟩:=sR.swap (pB hT.gw hN hJ) (hA.ii.ge (Ga.gV hT.gw n1 m b2))
  exact l6 (N:=0) (j:=0) (k:=λok=>bif !ok then again else .ret (dL f v)) hT hk eR hA hN hJ hM (hf b2 hN) λg' s' _ _ _ _ _ _ e=>h1 s' _ e rfl
theorem aB8{Q:Result->St->Prop}{x:Node}{at_:Int}{h v:Nat}{key:ByteArray}{gen:Int}{N j:Nat}:∀(n:Nat) (k:Int->I Result) (g:Ga) (s:St),Tw g s->Ls (pK x at_ h key v gen n k) g->(∀g' s' r ys,Ge g g'->Tw g' s'->gP g s s'->s'.aG=s.aG++ys->Mk ys (n+1) n 1 1->Ls (k r) g'->(k r).Al Q N j s')->(pK x at_ h key v gen n k).Al Q N (j+2+2*n) s
 |0,k,g,s,hT,hL,H=>by
  obtain⟨b,hN,hJ,sR⟩:=Ls.alloc hL hT.gw
  obtain⟨cY,e1,h1,_,_⟩:=gS hT hN hJ
  refine Hx (j:=j+1) (λ_=>hN.eZ (by show (gE _ _).length<=_;unfold gE;split<;>(simp only[Hd,List.length_nil];omega))) ?_
  have ee:=iE s {kind:=6,hash:=h,aH:=gE ⟨x.key,x.value⟩ ⟨key,v⟩} 0
  rw[e1]
  exact Al.mono (H _ _ _ _ h1 cY (gP.alloc hT _ _) ee ((mk6 rfl).mono (bZ _) (aW _) (bZ _) (aW _)) sR) (aW _) (by omega)
 |n+1,k,g,s,hT,hL,H=>by
  rw[pK]at hL ⊢
  cases hs:slice h (11-((n+1:Nat):Int)) != slice x.hash (11-((n+1:Nat):Int))with
  |true=>
   rw[hs]at hL
   obtain⟨b,hN,hJ,sR⟩:=Ls.alloc hL hT.gw
   obtain⟨cY,e1,h1,_,_⟩:=gS hT hN hJ
   obtain⟨b2,YJ,hJ2,Yy⟩:=Ls.alloc sR cY.gw
   obtain⟨gO,e2,h2,_,_⟩:=gS cY YJ hJ2
   rw[show j+2+2*(n+1)=(j+2+2*n+1)+1 by omega]
   refine Hx (j:=j+2+2*n+1) (λ_=>hN.eZ (bZ _)) ?_
   have q1:=iE s {kind:=4,hash:=h,key:=key,value:=v} 0
   rw[e1]
   refine Hx (j:=j+2+2*n) (λ_=>YJ.eZ (by rw[sY];exact bZ _)) ?_
   have q2:=iE (s.alloc {kind:=4,hash:=h,key:=key,value:=v} 0).1 (aO (aO {kind:=3} (slice x.hash (11-((n+1:Nat):Int))) at_).1 (slice h (11-((n+1:Nat):Int))) ((g.nodes.length:Int)+3)).1 0
   rw[q1,zA]at q2
   rw[e2]
   refine Al.mono (H _ _ _ _ (h1.trans h2) gO ((gP.alloc hT _ _).trans h1 (gP.alloc cY _ _)) q2 ?_ Yy) (aW _) (by omega)
   have k3:(aO (aO {kind:=3} (slice x.hash (11-((n+1:Nat):Int))) at_).1 (slice h (11-((n+1:Nat):Int))) ((g.nodes.length:Int)+3)).1.kind=3:=Ww YJ.lo
   exact((mk4 rfl).P3 (mk3 k3)).mono (by omega) (by omega) (by omega) (by omega)
  |false=>
   rw[hs]at hL
   show (pK x at_ h key v gen n _).Al Q N _ s
   rw[show j+2+2*(n+1)=(j+2)+2+2*n by omega]
   refine aB8 n _ g s hT hL λg1 s1 r ys h1 cY Hz ey hy Hy=>?_
   obtain⟨b,hN,hJ,sR⟩:=Ls.alloc Hy cY.gw
   obtain⟨gO,e2,h2,_,_⟩:=gS cY hN hJ
   obtain⟨b2,YJ,hJ2,Yy⟩:=Ls.alloc sR gO.gw
   obtain⟨tB,e3,h3,_,_⟩:=gS gO YJ hJ2
   refine Hx (j:=j+1) (λ_=>hN.eZ (bZ _)) ?_
   have q1:=iE s1 {kind:=2,gen:=gen} r
   rw[ey]at q1
   rw[e2]
   refine Hx (j:=j) (λ_=>YJ.eZ (by rw[sY];exact bZ _)) ?_
   have q2:=iE (s1.alloc {kind:=2,gen:=gen} r).1 (aO {kind:=3} (slice h (11-((n+1:Nat):Int))) ((g1.nodes.length:Int)+3)).1 0
   rw[q1,zA,zA]at q2
   rw[e3]
   have k3:(aO {kind:=3} (slice h (11-((n+1:Nat):Int))) ((g1.nodes.length:Int)+3)).1.kind=3:=Ww YJ.lo
   refine H _ _ _ _ ((h1.trans h2).trans h3) tB ((Hz.trans h1 (gP.alloc cY _ _)).trans (h1.trans h2) (gP.alloc gO _ _)) q2 ?_ Yy
   exact(hy.P3 ((Uc rfl).P3 (mk3 k3))).mono (by omega) (by omega) (by omega) (by omega)
theorem aF3{Q:Result->St->Prop}{A:List Node}{nc ni ns nl:Nat}{t:aX}{s:St}{r pa i m m2:Int}{h l N j:Nat}{k:Int->I Result}(hT:Tw g s)(hk:Tk g t)(eR:t.readOnly=false)(w:Wy g s t h r l pa i)(hm:rd s (g.node i).main=m)(hz:rU g m (l,h%64^l))(hl:(aB (g.node m) (slice h l)).2=true)(hI:fH g (aB (g.node m) (slice h l)).1 (l+1,h%64^(l+1)))
  (DF:rd s (g.node (aB (g.node m) (slice h l)).1).main=m2) (Ud:rU g m2 (l+1,h%64^(l+1))) (hq:Kq A s nc ni ns nl)
  (H:∀g' s' x,Ge g g'->Tw g' s'->Wy g' s' t h r (l+1) i x->rd s' (g'.node x).main=m2->Mo (g.node i).main g s s'->Kq A s' (nc+1) (ni+1) ns nl->(k x).Al Q N j s'):(oE t i m (slice h l) k).Al Q (N+7) (j+3) s:=by
 have wf:=w.wf
 have oO:=lX hl
 have wG:=((hT.gw.ofM hz.m).c oO).1
 have ed:=dP (h:=h) (l:=l) wG
 refine nT (hT.gC.node m) ?_
 rw[hl]
 refine MR (n:=N+5) (j:=j+3) hT hI Ud DF λg1 s1 h1 cY Hz ee1=>?_
 have w1:Wy g1 s1 t h r l pa i:=w.pP hT.gw h1 (Hz _ _ hk) Hz.ml
 have Da:=w1.wf
 have CT:rd s1 (g1.node i).main=m:=by rw[h1.node wf.ii.bX,Hz _ _ (hT.gw.fQ wf.ii)];exact hm
 refine nT (cY.gC.node i) ?_
 have wF:=NJ cY.gw Da.ii
 have hN:=nU (g:=g1) (x:=(g1.node i).gen) (b:=(l+1,h%64^(l+1))) wF.1 wF.2 (by show l+1<=11;omega)
 have hJ:oD g1 {kind:=2,gen:=(g1.node i).gen} m2 (l+1,h%64^(l+1)):=⟨λ_=>Ud.m.ge h1,(λh=>by cases h),λh=>by cases h⟩
 obtain⟨gO,e2,h2,_,_⟩:=gS cY hN hJ
 have q1:=iE s1 {kind:=2,gen:=(g1.node i).gen} m2
 have rI:=T6 (b:=(l+1,h%64^(l+1))) cY (n:={kind:=2,gen:=(g1.node i).gen}) (i:=m2) rfl
 refine Hx (j:=j+2) (λ_=>hN.eZ (bZ _)) ?_
 rw[e2]
 have a2:=h1.trans h2
 have ZK:=mX cY.gw (n:={kind:=2,gen:=(g1.node i).gen}) (i:=m2) (b:=(l+1,h%64^(l+1))) rfl
 refine nT (gO.gC.node m) ?_
 rw[a2.node hz.bX]
 have hn2:=gO.gw.ofM (hz.ge a2).m
 rw[a2.node hz.bX]at hn2
 obtain⟨p1,p2,p3⟩:=qE (r:=(g1.nodes.length:Int)+3) hn2 oO hl (.inl (by rw[ed];exact ZK))
 obtain⟨Lf,hLf⟩:=hn2.fit
 rw[p2]
 have Ln:=gP.alloc cY {kind:=2,gen:=(g1.node i).gen} m2
 have hA:=(Da.at_ (hz.ge h1) CT).pP cY.gw (hk.ge h1) h2 Ln
 refine Al.mono (n:=N+5) (i:=j+1) (l6 (j:=j) gO (hk.ge a2) eR hA p1 (lP p3 (.inr (hz.ge a2))) (fW gO.gw p3) (λ_=>p1.eZ (by rw[oN];exact bZ _)) λg' s' a3 tB hz3 hm3 hr3 hl3 q2=>?_) (aW _) (by omega)
 have a4:=Ga.gV gO.gw (aM (g.node m) (slice h l) ((g1.nodes.length:Int)+3)).1 m (l,h%64^l)
 have ab:=a4.trans a3
 have hI3:=ZK.ge ab
 have Nv:=gO.gw.fQ (Da.ii.ge h2)
 have w3:Wy g' s' t h r l pa i:=w1.pP cY.gw (h2.trans ab) (by rw[hr3,Da.root]) (Ln.ml.trans h2 (hl3.ml Nv))
 have eN:g'.node ((g1.alloc {kind:=2,gen:=(g1.node i).gen} m2 (l+1,h%64^(l+1))).nodes.length+3)=(aM (g.node m) (slice h l) ((g1.nodes.length:Int)+3)).1.stored ((g1.alloc {kind:=2,gen:=(g1.node i).gen} m2 (l+1,h%64^(l+1))).ty.length+1):=by
  rw[a3.node (fW gO.gw p3:mZ _ _ (l,h%64^l)).bX,eG]
 have bl:=MJ (n:=g.node m) (i:=slice h l) (r:=(g1.nodes.length:Int)+3) hLf.bm hl (by omega)
 have ei:((g1.alloc {kind:=2,gen:=(g1.node i).gen} m2 (l+1,h%64^(l+1))).node i).main=(g.node i).main:=by rw[a2.node wf.ii.bX]
 refine H g' s' _ ((a2.trans ab)) tB (.step w3 hm3 hz3 (by rw[eN,kI p1.valid (by omega),bl]) (by rw[eN,kI p1.valid (by omega),bl]) hI3 ?_) ?_ ?_ ?_
 ·rw[ab.node ZK.bX,eG]
  show (g1.node i).gen=(g'.node r).gen
  rw[(h2.trans ab).node Da.rt.bX,Da.gen]
 ·rw[ab.node ZK.bX,hl3 _ _ (gO.gw.fQ ZK) (Tw.ne (gO.gw.fQ ZK) Nv (by intro h;injection h with h;injection h with h;omega))]
  exact rI
 ·intro c' b' Yz xL
  rw[hl3 c' b' (h2.dZ (h1.dZ Yz)) (by rw[ei];exact xL),Ln _ _ (h1.dZ Yz),Hz _ _ Yz]
 ·have q3:s'.aG=s.aG++([Node.stored {kind:=2,gen:=(g1.node i).gen} (s1.cells.length+1)]++[(aM (g.node m) (slice h l) ((g1.nodes.length:Int)+3)).1.stored ((s1.alloc {kind:=2,gen:=(g1.node i).gen} m2).1.cells.length+1)]):=by
   rw[q2,q1,ee1,zA]
  exact(hq.more q3 ((Uc rfl).P3 (mk3 (Om p2)))).mono (by omega) (by omega) (by omega) (by omega)
theorem OX{A:List Node}{g0:Ga}{s0:St}{P:Int->Prop}(eR:c.aF.readOnly=false)(kP:c.key.size<=64)(Vs:Tw g0 s0)(hZ:∀i b,P i->fH g0 i b->rU g0 (MS s0 i) b)(hC:Cq s0 P):
  ∀(d l k:Nat) (g:Ga) (s:St) (r pa i i0:Int) (kk n:Nat),l+d=12->d<=k->Tw g s->Ge g0 g->Tk g c.aF->Wy g s c.aF (aE c.key c.aI) r l pa i->P i0->fH g0 i0 (l,aE c.key c.aI%64^l)->rd s (g.node i).main=MS s0 i0->Kpl g0 s0 P l s->Kq A s l l 0 0->
   (eE c (aE c.key c.aI) (g.node r).gen (aY c kk n) k pa i l).Al (QF A) (10*d+10) (10*d+40) s
 |0,l,k,g,s,r,pa,i,i0,kk,n,hd,hk,hT,hg,ht,w,hP,hI0,hm,hK,hq=>by
  have:=((hT.gw.RJ w.wf.ii).i w.wf.ii.1).2
  exact absurd (show l<=11 from this) (by omega)
 |d+1,l,0,g,s,r,pa,i,i0,kk,n,hd,hk,hT,hg,ht,w,hP,hI0,hm,hK,hq=>absurd hk (by omega)
 |d+1,l,k+1,g,s,r,pa,i,i0,kk,n,hd,hk,hT,hg,ht,w,hP,hI0,hm,hK,hq=>by
  have wf:=w.wf
  have pN:=hZ i0 _ hP hI0
  have hz:=pN.ge hg
  generalize hme:MS s0 i0=m at *
  rw[pW]
  refine Al.mono (n:=10*d+18+2) (i:=10*d+50) (MR (n:=10*d+18) hT wf.ii hz hm λg1 s1 h1 cY Hz e1=>?_) (by omega) (by omega)
  have hL:Ls (Vb c (aE c.key c.aI) (g.node r).gen (aY c kk n) k pa i l m) g1:=
   Ls.read (by have:=IM eR kP hT.gw ht wf (k+1) n kk;rw[pW]at this;exact this) hT.gw wf.ii h1 cY.gw (hz.ge h1)
  have hL:=Ls.node hL
  have Mm:=hg.trans h1
  have vD:=ht.ge h1
  have hz1:=hz.ge h1
  have w1:=w.pP hT.gw h1 (Hz _ _ ht) Hz.ml
  have Da:=w1.wf
  have CT:rd s1 (g1.node i).main=m:=by rw[h1.node wf.ii.bX,Hz _ _ (hT.gw.fQ wf.ii)];exact hm
  have hA:=Da.at_ hz1 CT
  have R9:Kq A s1 l l 0 0:=hq.same e1
  have aFe:l<=11:=((hT.gw.RJ wf.ii).i wf.ii.1).2
  have Yx:Kq A s1 13 12 2 1:=R9.mono (by omega) (by omega) (by omega) (by omega)
  have en:g1.node m=g0.node m:=Mm.node pN.bX
  refine nT (cY.gC.node m) ?_
  rcases nW hz1.m with h3|h5|h6
  ·rw[show ((g1.node m).kind==5)=false by rw[h3];rfl,show ((g1.node m).kind==6)=false by rw[h3];rfl,show ((g1.node m).kind==3)=true by rw[h3];rfl]at hL ⊢
   simp only[tV,fN]at hL ⊢
   cases hb:(aB (g1.node m) (slice (aE c.key c.aI) l)).2 with
   |false=>
    rw[hb]at hL
    have hL:Ls (mL c (aY c kk n) (aE c.key c.aI) i m (g1.node m) (slice (aE c.key c.aI) l)) g1:=hL
    show (mL c (aY c kk n) (aE c.key c.aI) i m (g1.node m) (slice (aE c.key c.aI) l)).Al (QF A) _ _ s1
    unfold mL at hL ⊢
    cases hp:cB c false 0 with
    |false=>exact Yx
    |true=>
     rw[hp]at hL
     obtain⟨b,hN,hJ,sR⟩:=Ls.alloc hL cY.gw
     obtain⟨gO,e2,h2,_,_⟩:=gS cY hN hJ
     refine Al.mono (Hx (j:=1) (n:=5) (λ_=>hN.eZ (bZ _)) ?_) (by omega) (by omega)
     have q1:=iE s1 {kind:=4,hash:=aE c.key c.aI,key:=c.key,value:=c.value} 0
     rw[e2]
     refine SC gO (vD.ge h2) eR (hA.pP cY.gw vD h2 (gP.alloc cY _ _)) sR (λb hb _=>hb.eZ (by rw[sY];exact bZ _)) ((R9.more q1 (mk4 rfl)).mono (by omega) (by omega) (by omega) (by omega)) λs' x e hn=>?_
     rw[q1,zA]at e
     exact(R9.more e ((mk4 rfl).P3 (mk3 (ZU hn)))).mono (by omega) (by omega) (by omega) (by omega)
   |true=>
    rw[hb]at hL
    have hL:=Ls.node hL
    refine nT (cY.gC.node _) ?_
    have h30:(g0.node m).kind=3:=by rw[<- en];exact h3
    have hb0:(aB (g0.node m) (slice (aE c.key c.aI) l)).2=true:=by rw[<- en];exact hb
    have hn0:=Vs.gw.ofM pN.m
    have wG:=(hn0.c h30).1
    have ed:=dP (h:=aE c.key c.aI) (l:=l) wG
    rcases(hn0.c h30).2.2 _ hb0 with hI|hS
    ·rw[ed]at hI
     have hPj:P (aB (g0.node m) (slice (aE c.key c.aI) l)).1:=by
      have:=hC.next i0 hP (slice (aE c.key c.aI) l)
      rw[hme,Vs.gC.node]at this
      exact this hb0 (by rw[Vs.gC.node];exact hI.1)
     have aFi:=hI.ge Mm
     have eIj:=Mm.node hI.bX
     have cIj:=Vs.gw.fQ hI
     have hKj:rd s1 (g1.node (aB (g0.node m) (slice (aE c.key c.aI) l)).1).main=MS s0 (aB (g0.node m) (slice (aE c.key c.aI) l)).1:=by
      rw[eIj,Hz _ _ (hg.dZ cIj)];exact hK _ _ hPj hI (PO l)
     have hK1:Kpl g0 s0 P (l+1) s1:=λj b a1 a2 a3=>by rw[Hz _ _ (hg.dZ (Vs.gw.fQ a2))];exact hK j b a1 a2 (by omega)
     rw[show (aB (g1.node m) (slice (aE c.key c.aI) l)).1=(aB (g0.node m) (slice (aE c.key c.aI) l)).1 by rw[en]]at hL ⊢
     generalize hje:(aB (g0.node m) (slice (aE c.key c.aI) l)).1=j at *
     have aG2:(aB (g1.node m) (slice (aE c.key c.aI) l)).1=j:=by rw[en];exact hje
     rw[show ((g1.node j).kind==4)=false by rw[aFi.1];rfl]
     simp only[fN]
     cases hgn:(g1.node j).gen != (g.node r).gen with
     |false=>
      simp only[fN]
      have er:=h1.node wf.rt.bX
      have xY:(g1.node j).gen=(g1.node r).gen:=by rw[er];simpa using hgn
      have:=OX eR kP Vs hZ hC d (l+1) k g1 s1 r i j j kk n (by omega) (by omega) cY Mm vD (.step w1 CT hz1 hb aG2 aFi xY) hPj hI hKj hK1 (R9.mono (by omega) (by omega) (by omega) (by omega))
      rw[er,show (((l+1:Nat):Int))=(l:Int)+1 by omega]at this
      exact Al.mono this (by omega) (by omega)
     |true=>
      simp only[tV]
      have er:=h1.node wf.rt.bX
      refine Al.mono (aF3 (N:=10*d+10) (j:=10*d+40) cY vD eR w1 CT hz1 hb (by rw[aG2];exact aFi) (by rw[aG2];exact hKj) ((hZ j _ hPj hI).ge Mm) R9 λg2 s2 x h2 gO w2 hx hmo Ei=>?_) (by omega) (by omega)
      have hx1:=w2.wf.ii.one
      rw[show (x==0)=false by simp;omega]
      have hK2:Kpl g0 s0 P (l+1) s2:=λj' b a1 a2 a3=>by
       have cj:=Vs.gw.fQ a2
       rw[hmo _ _ (Mm.dZ cj) (Tw.ne (Mm.dZ cj) (cY.gw.fQ Da.ii) (by intro e;injection e with e;rw[e]at a3;exact absurd a3 (by show ¬l+1<l;omega))),Hz _ _ (hg.dZ cj)]
       exact hK j' b a1 a2 (by omega)
      have:=OX eR kP Vs hZ hC d (l+1) k g2 s2 r i x j kk n (by omega) (by omega) gO (Mm.trans h2) (vD.ge h2) w2 hPj hI hx hK2 Ei
      rw[h2.node Da.rt.bX,er,show (((l+1:Nat):Int))=(l:Int)+1 by omega]at this
      exact this
    ·have hS4:(g1.node (aB (g1.node m) (slice (aE c.key c.aI) l)).1).kind=4:=by
      rw[en,Mm.node (jU (by rw[hS.1];decide))];exact hS.1
     rw[show ((g1.node (aB (g1.node m) (slice (aE c.key c.aI) l)).1).kind==4)=true by rw[hS4];rfl]at hL ⊢
     simp only[tV]at hL ⊢
     generalize (aB (g1.node m) (slice (aE c.key c.aI) l)).1=at_ at *
     unfold gJ at hL ⊢
     cases hqk:bO (g1.node at_).key c.key with
     |true=>
      rw[hqk]at hL
      simp only[tV]at hL ⊢
      cases hp:cB c true (g1.node at_).value with
      |false=>exact Yx
      |true=>
       rw[hp]at hL
       obtain⟨b,hN,hJ,sR⟩:=Ls.alloc hL cY.gw
       obtain⟨gO,e2,h2,_,_⟩:=gS cY hN hJ
       refine Al.mono (Hx (j:=1) (n:=5) (λ_=>hN.eZ (bZ _)) ?_) (by omega) (by omega)
       have q1:=iE s1 {kind:=4,hash:=aE c.key c.aI,key:=c.key,value:=c.value} 0
       rw[e2]
       refine SC gO (vD.ge h2) eR (hA.pP cY.gw vD h2 (gP.alloc cY _ _)) sR (λb hb _=>hb.eZ (by rw[oN];exact bZ _)) ((R9.more q1 (mk4 rfl)).mono (by omega) (by omega) (by omega) (by omega)) λs' x e hn=>?_
       rw[q1,zA]at e
       exact(R9.more e ((mk4 rfl).P3 (mk3 (Om hn)))).mono (by omega) (by omega) (by omega) (by omega)
     |false=>
      rw[hqk]at hL
      simp only[fN]at hL ⊢
      cases hp:cB c false 0 with
      |false=>exact Yx
      |true=>
       rw[hp]at hL
       simp only[xX,fN]at hL ⊢
       unfold uW at hL ⊢
       cases hc1:decide ((l:Int)+1<0)||(decide ((l:Int)+1>11)||decide ((g.node r).gen<1))with
       |true=>exact Yx
       |false=>
        rw[hc1]at hL
        simp only[fN]at hL ⊢
        have hL:=Ls.node hL
        refine nT (cY.gC.node _) ?_
        cases Nv:(g1.node at_).kind != 4||(decide (64<c.key.size)||bO c.key (g1.node at_).key)with
        |true=>exact Yx
        |false=>
         rw[Nv]at hL
         simp only[fN]at hL ⊢
         cases S1:decide ((aJ (g1.node at_).hash (aE c.key c.aI):Int)<(l:Int)+1)with
         |true=>exact Yx
         |false=>
          rw[S1]at hL
          simp only[fN]at hL ⊢
          rw[show (11-((l:Int)+1)).toNat=10-l by omega]at hL ⊢
          refine Al.mono (aB8 (N:=5) (j:=2) (10-l) _ g1 s1 cY hL λg2 s2 x ys h2 gO Ln ey hy sR=>?_) (by omega) (by omega)
          obtain⟨b,hN,hJ,Yy⟩:=Ls.alloc sR gO.gw
          obtain⟨tB,e3,h3',_,_⟩:=gS gO hN hJ
          show (I.alloc {kind:=2,gen:=(g.node r).gen} x _).Al (QF A) 5 2 s2
          refine Hx (j:=1) (λ_=>hN.eZ (bZ _)) ?_
          have q1:=iE s2 {kind:=2,gen:=(g.node r).gen} x
          rw[ey,zA]at q1
          rw[e3]
          have dG:l<=10:=wG
          refine SC tB (vD.ge (h2.trans h3')) eR (hA.pP cY.gw vD (h2.trans h3') (Ln.trans h2 (gP.alloc gO _ _))) Yy (λb hb _=>hb.eZ (by rw[oN];exact bZ _)) ((R9.more q1 (hy.P3 (Uc rfl))).mono (by omega) (by omega) (by omega) (by omega)) λs' x' e hn=>?_
          rw[q1,zA,zA]at e
          exact(R9.more e (hy.P3 ((Uc rfl).P3 (mk3 (Om hn))))).mono (by omega) (by omega) (by omega) (by omega)
  ·exact absurd (show (s0.node m).kind=5 by rw[Vs.gC.node,<- en];exact h5) (by have:=hC.aO9 i0 hP;rw[hme]at this;exact this)
  ·rw[show ((g1.node m).kind==5)=false by rw[h6];rfl,show ((g1.node m).kind==6)=true by rw[h6];rfl]at hL ⊢
   simp only[tV,fN]at hL ⊢
   unfold lF at hL ⊢
   cases hp:cB c (bN (g1.node m).aH c.key).2 (bN (g1.node m).aH c.key).1 with
   |false=>exact Yx
   |true=>
    rw[hp]at hL
    refine Al.mono (SC cY vD eR hA hL (λb _ hf=>?_) Yx λs' x e hn=>?_) (by omega) (by omega)
    ·have:=hf.node m
     rw[cY.gC.node]at this
     exact vH this _ _
    ·have DI:(grown (g1.node m) c.key c.value).1.kind=6:=by
      unfold grown at hn ⊢
      split
      ·rename_i hx;rw[if_pos hx]at hn;cases hn
      ·rfl
     exact(R9.more e (mk6 DI)).mono (by omega) (by omega) (by omega) (by omega)
theorem aNi{s0:St}{P:Int->Prop}{kk n:Nat}(eR:c.aF.readOnly=false)(kP:c.key.size<=64)(Bz:12<=kk)(hT:Tw g s0)(ht:Tk g c.aF)(hC:Cq s0 P)(hr:(s0.node (rd s0 c.aF.root)).kind=2)(hP:P (rd s0 c.aF.root)):(aY c kk (n+1)).Al (QF s0.aG) 131 160 s0:=by
 have Vs:=X8 hT
 have ht0:=ht.ge (Nf (s:=s0) hT.gw)
 have hI:fH (g.Vh s0) (rd s0 c.aF.root) (0,0):=by
  have hv:=Vs.gC.value ht0
  rw[eR]at hv
  rcases hv with hv|hv
  ·exact hv
  ·have h8:=hv
   rw[Vs.gC.node]at hr
   exact absurd (hr.symm.trans hv) (by decide)
 have hZ:∀i b,P i->fH (g.Vh s0) i b->rU (g.Vh s0) (MS s0 i) b:=λi b hPi hi=>by
  have hv:mZ (g.Vh s0) (rd s0 ((g.Vh s0).node i).main) b:=Vs.gC.value (Vs.gw.fQ hi)
  have hp:=hC.prev i hPi
  unfold MS at hp ⊢
  rw[Vs.gC.node,Vs.gC.node]at hp
  rw[Vs.gC.node]
  exact aCx hT.gw hv hp
 obtain⟨g1,h1,cY,_⟩:=Vs.val (ht0.root eR)
 show (uD c.aF λr=>.node r λa=>eE c (aE c.key c.aI) a.gen (aY c kk n) kk 0 r 0).Al (QF s0.aG) 131 160 s0
 refine Nm (n:=130) (nT (cY.gC.node _) ?_)
 rw[h1.node hI.bX,hI.1]
 refine nT (cY.gC.node _) ?_
 have hI0:fH (g.Vh s0) (rd s0 c.aF.root) (0,aE c.key c.aI%64^0):=by rw[U8];exact hI
 exact OX eR kP Vs hZ hC 12 0 kk g1 _ _ 0 _ _ kk n rfl Bz cY h1 (ht0.ge h1) (.root (hI0.ge h1) rfl) hP hI0 (by show rd s0 _=_;unfold MS;rw[Vs.gC.node,h1.node hI.bX]) (λj b _ hj _=>by show rd s0 _=_;unfold MS;rw[Vs.gC.node]) ⟨[],by rw[OE];rfl,Mk.nil⟩
theorem aNb{s0:St}{P:Int->Prop}(eR:c.aF.readOnly=false)(hT:Tw g s0)(ht:Tk g c.aF)(hC:Cq s0 P)(hr:(s0.node (rd s0 c.aF.root)).kind=2)(hP:P (rd s0 c.aF.root)):(Ul c FU).Al (QF s0.aG) 131 160 s0:=by
 unfold Ul
 cases hv:!bR c.key||(decide (c.bF<0)||decide (c.bF>3))with
 |true=>exact Kq.mono (C:=0) (I:=0) (S:=0) (L:=0) ⟨[],by rw[OE],Mk.nil⟩ (by omega) (by omega) (by omega) (by omega)
 |false=>
  have kP:c.key.size<=64:=by
   have:bR c.key=true:=by simp at hv;exact hv.1
   unfold bR at this;simpa using this
  have e:aY c FU FU=aY c FU (99999999+1):=rfl
  simp only[fN]
  rw[e]
  exact aNi eR kP (by decide) hT ht hC hr hP
end Go.Ct
end
