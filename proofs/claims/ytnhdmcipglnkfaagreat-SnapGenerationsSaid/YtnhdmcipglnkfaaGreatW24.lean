/- Parts of a proof: Q0, Sa4, Sa5, Sp, Qp, Nb. -/
import Derived.Test.YtnhdmcipglnkfaaGreatW23
set_option linter.unusedVariables false
set_option linter.unusedSimpArgs false
set_option maxRecDepth 100000
set_option maxHeartbeats 4000000
section
namespace Go.Ct
variable{x y:X}
theorem Nf{a:Int}{o:Option Int}(h:dY a x=(y,o)):x.s.aG.length<=y.s.aG.length:=by
 unfold dY nD rX jR St.load at h;repeat' split at h
 all_goals (cases h;exact JV _)
theorem MY{a b d:Int}{o:Option Bool}(h:iB a b d x=(y,o)):x.s.aG.length<=y.s.aG.length:=by
 unfold iB nD rX jR St.eA at h;repeat' split at h
 all_goals (cases h;exact JV _)
theorem Is{n:Node}{i:Int}{o:Option Int}(h:dB n i x=(y,o)):x.s.aG.length<=y.s.aG.length:=by
 unfold dB at h;repeat' split at h
 ·cases h;exact JV _
 ·cases h;have:=(St.lP x.s n i).2.2;dsimp only;omega
 ·cases h;exact JV _
theorem Nz{i:Int}{o:Option Int}(h:fE i x=(y,o)):x.s.aG.length<=y.s.aG.length:=by
 unfold fE St.aV at h;repeat' split at h
 all_goals (cases h;exact JV _)
theorem Vg{o:Option Int}(h:iH x=(y,o)):x.s.aG.length<=y.s.aG.length:=by
 unfold iH St.bS at h;repeat' split at h
 all_goals (cases h;exact JV _)
theorem vM{α β:Type}{r:X×Option α}{f:α->X->X×Option β}{o:Option β}(hr:∀z o,r=(z,o)->x.s.aG.length<=z.s.aG.length)(hf:∀v z o,f v z=(y,o)->z.s.aG.length<=y.s.aG.length)(h:iP r f=(y,o)):x.s.aG.length<=y.s.aG.length:=by
 obtain⟨z,p⟩:=r
 cases p with
 |none=>cases h;exact hr _ _ rfl
 |some v=>exact lK (hr _ _ rfl) (hf v z o h)
theorem pI{α:Type}:∀{t:I α} {x y:X} {o:Option α},aX t x=(y,o)->x.s.aG.length<=y.s.aG.length
 |.ret a,x,y,o,h=>by unfold aX at h;split at h<;>(cases h;exact JV _)
 |.load c k,x,y,o,h=>vM (λ_ _=>Nf) (λv z o h=>pI h) h
 |.eA c a n k,x,y,o,h=>vM (λ_ _=>MY) (λv z o h=>pI h) h
 |.alloc n i k,x,y,o,h=>vM (λ_ _=>Is) (λv z o h=>pI h) h
 |.cell i k,x,y,o,h=>vM (λ_ _=>Nz) (λv z o h=>pI h) h
 |.gen k,x,y,o,h=>vM (λ_ _=>Vg) (λv z o h=>pI h) h
 |.node r k,x,y,o,h=>by unfold aX at h;exact pI h
theorem M8{a v:Int}(q:dY a x=out y v):x.s.aG.length<=y.s.aG.length:=Nf q
theorem Gq{n:Node}{i v:Int}(q:dB n i x=out y v):x.s.aG.length<=y.s.aG.length:=Is q
theorem B7{i v:Int}(q:fE i x=out y v):x.s.aG.length<=y.s.aG.length:=Nz q
theorem A8{v:Int}(q:iH x=out y v):x.s.aG.length<=y.s.aG.length:=Vg q
theorem nY{α:Type}{t:I α}{v:α}(q:aX t x=out y v):x.s.aG.length<=y.s.aG.length:=pI q
theorem Ok.len{j:Nat}(h:Ok j x):x.s.aG.length<=900000000000:=by
 have:=h.zP;unfold X.size St.size cN at this;omega
theorem Ok.lN{j:Nat}(h:Ok j x)(r:Int):(x.node r).Fit x.s.aG.length:=h.fit.node r
theorem Ok.nf{j:Nat}(h:Ok j x)(r:Int):NF (x.node r):=(h.fit.node r).nf h.len
theorem wF{α:Type}{c:Bool}{a b:I α}{x:X}{o:X×Option α}(hc:c=true)(h:aX b x=o):aX (bif !c then a else b) x=o:=by rw[hc];exact h
theorem Zo{α:Type}{c:Bool}{a b:I α}{x:X}{o:X×Option α}(hc:c=false)(h:aX a x=o):aX (bif !c then a else b) x=o:=by rw[hc];exact h
theorem Cd(a b:Nat):((a:Int)==(b:Int))=(a==b):=by rw[Bool.eq_iff_iff,mQ,mQ];omega
theorem K1{a v:Int}(q:dY a x=out y v):y.left<=x.left:=yX q
theorem Oj{n:Node}{i:Int}{o:Option Int}(h:dB n i x=(y,o)):y.left<=x.left:=by
 unfold dB at h;repeat' split at h
 all_goals (cases h;exact JV _)
theorem Yt{i:Int}{o:Option Int}(h:fE i x=(y,o)):y.left<=x.left:=by
 unfold fE at h;repeat' split at h
 all_goals (cases h;exact JV _)
theorem EQ{o:Option Int}(h:iH x=(y,o)):y.left<=x.left:=by
 unfold iH at h;repeat' split at h
 all_goals (cases h;exact JV _)
theorem w8{n:Node}{i v:Int}(q:dB n i x=out y v):y.left<=x.left:=Oj q
theorem I6{i v:Int}(q:fE i x=out y v):y.left<=x.left:=Yt q
theorem J1{v:Int}(q:iH x=out y v):y.left<=x.left:=EQ q
theorem Az{α β:Type}{r:X×Option α}{f:α->X->X×Option β}{o:Option β}(hr:∀z o,r=(z,o)->z.left<=x.left)(hf:∀v z o,f v z=(y,o)->y.left<=z.left)(h:iP r f=(y,o)):y.left<=x.left:=by
 obtain⟨z,p⟩:=r
 cases p with
 |none=>cases h;exact hr _ _ rfl
 |some v=>exact lK (hf v z o h) (hr _ _ rfl)
theorem sQ{α:Type}:∀{t:I α} {x y:X} {o:Option α},aX t x=(y,o)->y.left<=x.left
 |.ret a,x,y,o,h=>by unfold aX at h;split at h<;>(cases h;exact JV _)
 |.load c k,x,y,o,h=>Az (λ_ _=>yX) (λv z o h=>sQ h) h
 |.eA c a n k,x,y,o,h=>Az (λ_ _=>AJ) (λv z o h=>sQ h) h
 |.alloc n i k,x,y,o,h=>Az (λ_ _=>Oj) (λv z o h=>sQ h) h
 |.cell i k,x,y,o,h=>Az (λ_ _=>Yt) (λv z o h=>sQ h) h
 |.gen k,x,y,o,h=>Az (λ_ _=>EQ) (λv z o h=>sQ h) h
 |.node r k,x,y,o,h=>by unfold aX at h;exact sQ h
theorem UJ{α:Type}{t:I α}{v:α}(q:aX t x=out y v):y.left<=x.left:=sQ q
theorem y0{n:Node}{i v:Int}(q:dB n i x=out y v)(h:x.e.aC=true):y.e.aC=true:=by
 unfold dB at q;rw[if_pos h]at q;have:x=y:=congrArg Prod.fst q;rw[<- this];exact h
theorem I9{v:Int}(q:iH x=out y v)(h:x.e.aC=true):y.e.aC=true:=by
 unfold iH at q;rw[if_pos h]at q;have:x=y:=congrArg Prod.fst q;rw[<- this];exact h
theorem o0{α:Type}{t:I α}{v:α}(q:aX t x=out y v)(h:x.e.aC=true):y.e.aC=true:=by
 rw[cP h]at q;have:x=y:=congrArg Prod.fst q;rw[<- this];exact h
theorem KL{α β γ:Type}(t:I α)(f:α->I β)(g:β->I γ)(x:X):aX ((t.bind f).bind g) x=aX (t.bind λv=>(f v).bind g) x:=by
 rw[iJ,iJ,iJ,rU];exact mX λv y=>(iJ _ _ _).symm
theorem lB{α β γ:Type}{t:I α}{f:α->I β}{g:β->I γ}{x y:X}{v:α}{o:X×Option γ}(q:aX t x=out y v)(h:aX ((f v).bind g) y=o):aX ((t.bind f).bind g) x=o:=(KL t f g x).trans (rB q h)
theorem Ds{α β:Type}{r:Int}{k:Node->I α}{g:α->I β}{x:X}{o:X×Option β}(h:aX ((k (x.node r)).bind g) x=o):aX ((I.node r k).bind g) x=o:=h
theorem Mv{α β:Type}{c:Bool}{a b:I α}{g:α->I β}{x:X}{o:X×Option β}(hc:c=true)(h:aX (a.bind g) x=o):aX ((bif c then a else b).bind g) x=o:=by rw[hc];exact h
theorem oV{α β:Type}{c:Bool}{a b:I α}{g:α->I β}{x:X}{o:X×Option β}(hc:c=false)(h:aX (b.bind g) x=o):aX ((bif c then a else b).bind g) x=o:=by rw[hc];exact h
theorem QT{α:Type}{t t':I α}{y:X}(h:y.e.aC=true):aX t y=aX t' y:=by rw[cP h,cP h]
def WC(c:Call)(k n:Nat):Option Result->I Result
 |some r=>.ret r
 |none=>yN c k n
theorem Kt(c:Call)(k n:Nat):yN c k (n+1)=(tV c.aE).bind λi=>.node i λa=>(Dx c (aH c.key c.aI) a.gen k 0 i 0).bind (WC c k n):=by
 rw[yN];congr 1
def OI(c:Call)(k n:Nat):Option Result->I Result
 |some r=>.ret r
 |none=>pE c k n
theorem zL(c:Call)(k n:Nat):pE c k (n+1)=(tV c.aE).bind λi=>.node i λa=>(sY c (aH c.key c.aI) a.gen k [i] i 0).bind (OI c k n):=by
 rw[pE];congr 1
theorem vE(a b:Nat):((a:Int) != (b:Int))=(a != b):=by unfold bne;rw[Cd]
theorem GJ{α:Type}{a b:Nat}{c:Int}{k:Int->I α}{v:α}{j:Nat}(hx:Ok j x)(hk:∀v,jN a b (k v))(ha:a<=j+99)(q:aX (.load c k) x=out y v):y.e.aC=true\/x.e.aC=false/\y.left<x.left:=by
 cases hs:x.e.aC with
 |true=>rw[cP hs]at q;have q1:x=y:=congrArg Prod.fst q;subst q1;exact .inl hs
 |false=>
  rw[run_load]at q
  obtain⟨z,o,hz⟩:∃z o,dY c x=(z,o):=⟨_,_,rfl⟩
  rw[hz]at q
  cases o with
  |none=>
   have q1:z=y:=congrArg Prod.fst q
   subst q1;exact .inl (Wg hz)
  |some u=>
   have hns:=Uf hz
   obtain⟨k1,k2,k3,_⟩:=Gm hx (show dY c x=out z u by rw[hz,iK hns])
   have:=((hk u).ok (k1.less ha) q).2.2.1
   exact .inr ⟨rfl,by have:=(k3 hns).1;omega⟩
theorem oK{t:bC}{i v:Int}{j:Nat}(hx:Ok j x)(q:aX (oJ t i) x=out y v):y.e.aC=true\/x.e.aC=false/\y.left<x.left:=
 GJ (c:=(x.node i).main) (k:=λm=>wQ t i m) hx (λm=>uB t i m) (by omega) q
theorem BE(t:bC)(v:Int):jN 129 60 (.node v λd=>bif d.kind==2 then .ret v else .node v λd=>.load d.status λs=>bif s==0 then(vR t v).bind λ_=>.node v λd=>.load d.status λs=>Mj t v s else Mj t v s):=
 λj L hj M d hM hd=>gD.bif (λ_=>⟨by omega,hM,trivial⟩) λ_ M2 d2 hM2 hd2 s=>
  gD.bif (λ_=>(vG t v).then (by omega) λj' L' _ hj' hL' _ M4 d4 hM4 hd4 s2=>(rO t v s2).at (by omega) (by omega)) λ_=>(rO t v s).at (by omega) (by omega)
theorem pY{t:bC}{v:Int}{j:Nat}(hx:Ok j x)(hj:30<=j)(q:aX (tV t) x=out y v):y.e.aC=true\/x.e.aC=false/\y.left<x.left:=
 GJ (c:=t.root) hx (λv=>BE t v) (by omega) q
theorem lL{α:Type}{a b:Nat}{t:I α}{Q:α->Prop}{v:α}{j:Nat}(h:jN a b t Q)(hx:Ok j x)(ha:a<=j)(q:aX t x=out y v):y.left<=x.left:=(h.ok (hx.less ha) q).2.2.1
end Go.Ct
end
section
namespace Go.Ct
variable{g:Ga}
theorem NQ{n:Node}{b:fV}(hn:cJ g n b)(hk:n.kind=6):n.Kx=true:=by unfold Node.Kx;rw[hk,hn.valid];rfl
theorem PS{n:Node}{b:fV}{key:ByteArray}{v:Nat}(hn:cJ g n b)(hk:n.kind=6)(hs:key.size<=64):cJ g (grown n key v).1 b/\(grown n key v).2=true/\(grown n key v).1.bM=true:=by
 have hL:=NQ hn hk
 have vf:=fJ hn.valid
 rw[AO hL (by omega)]
 have hp:=vf.kG hk
 have h2:=vf.aF hk
 refine⟨Pj hn.hash (by have:=(Ve n.aF key v hp).1;omega) (Em _ _ _ hp) (λq hq=>Ob n.aF key v (λk=>k.size<=64) ((jF _).1 (vf.short hk)) hs q hq) (hn.l hk),rfl,rfl⟩
structure Kl(g:Ga)(again:I Result)(k':Result×Int->I Result):Prop where
 fin:∀g',Ge g g'->GW g'->∀r:Result,r.aE={}->Sm (.ret r) (k' (r,1)) g'
 AS:∀g',Ge g g'->GW g'->∀r,Sm again (k' (r,0)) g'
theorem Kl.ge{again:I Result}{k':Result×Int->I Result}{g':Ga}(h:Kl g again k')(hg:Ge g g'):Kl g' again k':=⟨λg2 h2=>h.fin g2 (hg.trans h2),λg2 h2=>h.AS g2 (hg.trans h2)⟩
variable{c:Call}{again:I Result}{k':Result×Int->I Result}
theorem CM{f:Bool}{v:Nat}(hw:GW g)(hk:Kl g again k')(ok:Bool):Sm (bif !ok then again else .ret (dL f v)) ((kJ f v ok).bind k') g:=by
 cases ok with
 |true=>exact hk.fin g (Ge.refl hw) hw _ rfl
 |false=>exact hk.AS g (Ge.refl hw) hw _
theorem Se{i m:Int}{n:Node×Bool}{f:Bool}{v:Nat}{b:fV}(hw:GW g)(ht:Tk g c.aE)(hi:jV g i b)(hm:tS g m b)(hn:cJ g n.1 b/\n.2=true/\n.1.bM=true)(hk:Kl g again k'):
  Sm (Ol c again i m n f v) ((I.alloc n.1 m λr=>(mE c.aE i m r).bind (kJ f v)).bind k') g:=by
 refine Sm.ff (by rw[hn.2.1];rfl) (.alloc b hn.1 (mZ hn.2.2 (.inr hm)) λh1 hw1=>?_)
 refine Sm.as9 (u:=mE c.aE i m _) (Gh hw1 (ht.ge h1) (hi.ge h1) (kQ hw hn.2.2) λg2 h2 hw2 ok=>?_)
 exact CM hw2 (hk.ge (h1.trans h2)) ok
theorem Ws{i m ix r:Int}{n:Node}{f:Bool}{v:Nat}{b:fV}(hw:GW g)(ht:Tk g c.aE)(hi:jV g i b)(hm:tS g m b)(he:n=g.node m)(hl:(aB n ix).2=true)(hr:jV g r (dO b ix)\/Dg g r (dO b ix))(hk:Kl g again k'):
  Sm (Ol c again i m (aP n ix r) f v) (((nU m ix r).bind λr=>(mE c.aE i m r).bind (kJ f v)).bind k') g:=by
 subst he
 unfold nU
 refine .nr hm.dU ?_
 exact Se hw ht hi hm (yY (hw.ofM hm.m) (Ai hl) hl hr) hk
theorem Gv{h v:Nat}{key:ByteArray}{ix:Int}{b:fV}(e:dO b ix=(b.1+1,h%64^(b.1+1))):Dg (g.alloc {kind:=4,hash:=h,key:=key,value:=v} 0 (0,0)) (g.nodes.length+3) (dO b ix):=
 Cs rfl (by rw[e])
theorem DK(a b:ByteArray):bR a b=bR b a:=by unfold bR;exact Bool.beq_comm
theorem AM{i m:Int}{h:Nat}{level gen:Int}{b:fV}(hw:GW g)(ht:Tk g c.aE)(hi:jV g i b)(hm:tS g m b)(hk6:(g.node m).kind=6)(hkey:c.key.size<=64)(hk:Kl g again k'):
  Sm (mO c again i m (g.node m)) ((lJ c i m h level gen).bind k') g:=by
 unfold mO lJ
 refine .nr hm.dU ?_
 dsimp only
 rw[show ((g.node m).kind==6)=true by rw[hk6];rfl]
 cases hp:cS c (bB (g.node m).aF c.key).2 (bB (g.node m).aF c.key).1 with
 |false=>exact hk.fin g (Ge.refl hw) hw _ rfl
 |true=>exact Se hw ht hi hm (PS (hw.ofM hm.m) hk6 hkey) hk
theorem Tn(g:Ga):(0:Int)<=g.count:=by unfold Ga.count;omega
theorem NJ{i m:Int}{h l:Nat}{gen:Int}(hw:GW g)(ht:Tk g c.aE)(hi:jV g i (l,h%64^l))(hm:tS g m (l,h%64^l))(hk3:(g.node m).kind=3)(hl:(aB (g.node m) (slice h l)).2=false)(hh:h<18446744073709551616)(hkey:c.key.size<=64)(hk:Kl g again k'):
  Sm (qY c again h i m (g.node m) (slice h l)) ((lJ c i m h l gen).bind k') g:=by
 unfold qY lJ
 refine .nr hm.dU ?_
 dsimp only
 have hz:(aB (g.node m) (slice h l)).1=0:=by
  rcases Vv hl with q|q
  ·rw[Tr q]
  ·rw[Dd q]
 rw[show ((g.node m).kind==6)=false by rw[hk3];rfl,hl,hz]
 refine .nr (Tn g) ?_
 have hl10:=((hw.ofM hm.m).c hk3).1
 have hs:=zR h l
 cases hp:cS c false 0 with
 |false=>exact hk.fin g (Ge.refl hw) hw _ rfl
 |true=>
  refine .alloc (0,0) (Bz (.inl rfl) hh hkey (λh=>by cases h)) (wH (.inl rfl)) λh1 hw1=>?_
  exact Se hw1 (ht.ge h1) (hi.ge h1) (hm.ge h1) (uC ((hw.ofM hm.m).ge h1) hk3 hl hs.1 hs.2 (.inr (Gv (fP hl10)))) (hk.ge h1)
theorem JD{i m:Int}{h l:Nat}{gen:Int}(hw:GW g)(ht:Tk g c.aE)(hi:jV g i (l,h%64^l))(hm:tS g m (l,h%64^l))(hl:(aB (g.node m) (slice h l)).2=true)(hs:Dg g (aB (g.node m) (slice h l)).1 (dO (l,h%64^l) (slice h l)))(hh:h<18446744073709551616)(hkey:c.key.size<=64)
  (hg1:1<=gen) (hg:gen<=g.gen) (hk:Kl g again k'):
  Sm (hX c again h i m (g.node m) (slice h l) (aB (g.node m) (slice h l)).1 (g.node (aB (g.node m) (slice h l)).1) l gen) ((lJ c i m h l gen).bind k') g:=by
 have hk3:=Ai hl
 have hl10:=((hw.ofM hm.m).c hk3).1
 have ed:=fP (h:=h) (l:=l) hl10
 generalize hb:(aB (g.node m) (slice h l)).1=b at *
 unfold hX lJ
 refine .nr hm.dU ?_
 dsimp only
 rw[show ((g.node m).kind==6)=false by rw[hk3];rfl,hl,hb]
 refine .nr hs.dU ?_
 dsimp only
 rw[show ((g.node b).kind==2)=false by rw[hs.1];rfl]
 cases hq:bR (g.node b).key c.key with
 |true=>
  cases hp:cS c true (g.node b).value with
  |false=>exact hk.fin g (Ge.refl hw) hw _ rfl
  |true=>
   refine .alloc (0,0) (Bz (.inl rfl) hh hkey (λh=>by cases h)) (wH (.inl rfl)) λh1 hw1=>?_
   exact Ws hw1 (ht.ge h1) (hi.ge h1) (hm.ge h1) (by rw[h1.node hm.dU]) hl (.inr (Gv ed)) (hk.ge h1)
 |false=>
  cases hp:cS c false 0 with
  |false=>exact hk.fin g (Ge.refl hw) hw _ rfl
  |true=>
   refine Sm.ff rfl ?_
   unfold vJ
   rw[show (decide ((l:Int)+1<0)||(decide ((l:Int)+1>11)||decide (gen<1)))=false by simp;omega]
   refine Sm.ff rfl (.nl hs.dU ?_)
   rw[show ((g.node b).kind != 4)=false by rw[hs.1];rfl,show decide (64<c.key.size)=false from Ab (by omega),DK,hq]
   have hS:Dg g b (l+1,h%64^(l+1)):=by rw[<- ed];exact hs
   have hcg:=Nq (a:=(g.node b).hash) (b:=h) (c:=l+1) hS.2 (by omega)
   refine Sm.ff rfl (Sm.ff (Ab (by omega)) ?_)
   rw[show (11-((l:Int)+1)).toNat=11-(l+1) by omega]
   refine Sm.as9 (u:=nM (g.node b) b h c.key c.value ((l+1:Nat):Int) gen) (SA hw rfl hS (by omega) hh hkey hq hg1 hg λg1 h1 hw1 s hs1=>?_)
   refine Sm.ff rfl (.alloc (l+1,h%64^(l+1)) (rH hg1 (by have:=h1.gen;omega) (by show l+1<=11;omega)) ⟨λ_=>hs1,(λh=>by cases h),λh=>by cases h⟩ λh2 hw2=>?_)
   have hI:=oU hw1 (n:={kind:=2,gen:=gen}) (i:=s) (b:=(l+1,h%64^(l+1))) rfl
   have hg2:=h1.trans h2
   exact Ws hw2 (ht.ge hg2) (hi.ge hg2) (hm.ge hg2) (by rw[hg2.node hm.dU]) hl (.inl (by rw[ed];exact hI)) (hk.ge hg2)
end Go.Ct
end
section
namespace Go.Ct
variable{g:Ga}
structure Kv(g:Ga)(again:I Result)(K:Option Result->I Result):Prop where
 fin:∀g',Ge g g'->GW g'->∀r:Result,r.aE={}->Sm (.ret r) (K (some r)) g'
 AS:∀g',Ge g g'->GW g'->Sm again (K none) g'
theorem Kv.ge{again:I Result}{K:Option Result->I Result}{g':Ga}(h:Kv g again K)(hg:Ge g g'):Kv g' again K:=⟨λg2 h2=>h.fin g2 (hg.trans h2),λg2 h2=>h.AS g2 (hg.trans h2)⟩
variable{c:Call}{again:I Result}{K:Option Result->I Result}
theorem ZH{r:Int}{b:fV}(hw:GW g)(h:jV g r b):1<=(g.node r).gen/\(g.node r).gen<=g.gen:=⟨(fJ (hw.YW h).valid).gen h.1,((hw.YW h).i h.1).1⟩
theorem LG{i m ix gen:Int}{b:fV}{kp:Int->I Result}{kr:Int->I Result}(hw:GW g)(ht:Tk g c.aE)(hi:jV g i b)(hm:tS g m b)(hl:(aB (g.node m) ix).2=true)(hb:jV g (aB (g.node m) ix).1 (dO b ix))
  (h1:∀g',Ge g g'->GW g'->∀r,jV g' r (dO b ix)->Sm (kp r) (kr r) g') (h0:∀g',Ge g g'->GW g'->Sm again (kr 0) g'):
  Sm (bif (g.node (aB (g.node m) ix).1).gen != gen then pD c.aE i m ix λb=>bif b==0 then again else kp b else kp (aB (g.node m) ix).1) ((qS c.aE i m ix gen).bind kr) g:=by
 unfold qS
 refine .nr hm.dU (.nr hb.dU ?_)
 dsimp only
 cases hg:(g.node (aB (g.node m) ix).1).gen==gen with
 |true=>
  rw[show ((g.node (aB (g.node m) ix).1).gen != gen)=false by unfold bne;rw[hg];rfl]
  exact h1 g (Ge.refl hw) hw _ hb
 |false=>
  rw[show ((g.node (aB (g.node m) ix).1).gen != gen)=true by unfold bne;rw[hg];rfl]
  refine Sm.tt rfl (Sm.rf rfl (OX hw ht hi hm hl hb λg' hg' hw' r hr=>?_))
  rcases hr with rfl|hr
  ·exact h0 g' hg' hw'
  ·refine Sm.ff ?_ (h1 g' hg' hw' r hr)
   have:=hr.one
   exact beq_eq_false_iff_ne.2 (by omega)
theorem Xu{h:Nat}{gen:Int}(hro:c.aE.readOnly=false)(hh:h<18446744073709551616)(hkey:c.key.size<=64)(hg1:1<=gen):∀(n l:Nat) (pa i:Int) (g:Ga),GW g->Tk g c.aE->jV g i (l,h%64^l)->(l=0\/jV g pa (l-1,h%64^(l-1)))->gen<=g.gen->Kv g again K->
  Sm (gA c h gen again n pa i l) ((Dx c h gen n pa i l).bind K) g
 |0,l,pa,i,g,hw,ht,hi,hp,hg,hk=>hk.AS g (Ge.refl hw) hw
 |n+1,l,pa,i,g,hw,ht,hi,hp,hg,hk=>by
  refine Sm.as9 (mN hw ht hi λg1 h1 hw1 m hm=>?_)
  refine .nl hm.dU (.nr hm.dU ?_)
  dsimp only
  have hn:=hw1.ofM hm.m
  have hi1:=hi.ge h1
  have ht1:=ht.ge h1
  have hgg:gen<=g1.gen:=by have:=h1.gen;omega
  have hkl:∀(F:Int->I (Option Result)),Kl g1 again λr=>(bif r.2==1 then I.ret (some r.1)else bif r.2==0 then .ret none else(qS c.aE i m (slice h l) gen).bind F).bind K:=λF=>⟨λg' h' hw' r hr=>hk.fin g' (h1.trans h') hw' r hr,λg' h' hw' r=>hk.AS g' (h1.trans h') hw'⟩
  rcases sH hm.m with hk3|hk5|hk6
  ·rw[show ((g1.node m).kind==5)=false by rw[hk3];rfl,show ((g1.node m).kind==6)=false by rw[hk3];rfl,show ((g1.node m).kind==3)=true by rw[hk3];rfl]
   simp only[pJ,xM]
   rw[I.bind_assoc]
   cases hl:(aB (g1.node m) (slice h l)).2 with
   |false=>exact NJ hw1 ht1 hi1 hm hk3 hl hh hkey (hkl _)
   |true=>
    refine Sm.ff rfl ?_
    rcases(hn.c hk3).2.2 _ hl with hb|hb
    ·refine .nl hb.dU (Sm.ff (by rw[hb.1];rfl) ?_)
     have hl10:=(hn.c hk3).1
     have ed:=fP (h:=h) (l:=l) hl10
     unfold lJ
     refine .nr hm.dU ?_
     dsimp only
     rw[show ((g1.node m).kind==6)=false by rw[hk3];rfl]
     refine .nr hb.dU ?_
     dsimp only
     rw[hl,show ((g1.node (aB (g1.node m) (slice h l)).1).kind==2)=true by rw[hb.1];rfl]
     show Sm _ (((qS c.aE i m (slice h l) gen).bind λb=>bif b==0 then .ret none else Dx c h gen n i b ((l:Int)+1)).bind K) g1
     rw[I.bind_assoc]
     refine LG (kp:=λb=>gA c h gen again n i b ((l:Int)+1)) hw1 ht1 hi1 hm hl hb (λg' h' hw' r hr=>?_) λg' h' hw'=>hk.AS g' (h1.trans h') hw'
     rw[show (r==0)=false from beq_eq_false_iff_ne.2 (by have:=hr.one;omega)]
     rw[ed]at hr
     exact Xu hro hh hkey hg1 n (l+1) i r g' hw' (ht1.ge h') hr (.inr (by show jV g' i (l,h%64^l);exact hi1.ge h')) (by have:=h'.gen;omega) (hk.ge (h1.trans h'))
    ·refine .nl hb.dU (Sm.tt (by rw[hb.1];rfl) ?_)
     exact JD hw1 ht1 hi1 hm hl hb hh hkey hg1 hgg (hkl _)
  ·have h1l:=(hn.t hk5).1
   rw[show ((g1.node m).kind==5)=true by rw[hk5];rfl]
   simp only[xM]
   have hp':=(hp.resolve_left (by show ¬l=0;have:1<=l:=h1l;omega)).ge h1
   obtain⟨l',rfl⟩:∃l',l=l'+1:=⟨l-1,by have:1<=l:=h1l;omega⟩
   have hl11:l'+1<=11:=((hw1.YW hi1).i hi1.1).2
   rw[show ((l'+1:Nat):Int)-1=(l':Int) by omega]
   exact Sm.as9 (Jz (b:=(l',h%64^l')) hw1 ht1 hp' rfl (.inl (by rw[fP (by omega)];exact hi1)) λg' h' hw' ok=>hk.AS g' (h1.trans h') hw')
  ·rw[show ((g1.node m).kind==5)=false by rw[hk6];rfl,show ((g1.node m).kind==6)=true by rw[hk6];rfl]
   simp only[pJ,xM]
   rw[I.bind_assoc]
   exact AM hw1 ht1 hi1 hm hk6 hkey (hkl _)
theorem Ur{k:Nat}(hro:c.aE.readOnly=false)(hkey:c.key.size<=64):∀(n:Nat) (g:Ga),GW g->Tk g c.aE->Sm (bO c k n) (yN c k n) g
 |0,g,hw,ht=>.ret _ g (q0 rfl)
 |n+1,g,hw,ht=>by
  rw[Kt]
  refine Bk hw ht λg1 h1 hw1 r hr=>.nl hr.dU (.nr hr.dU ?_)
  obtain⟨a1,a2⟩:=ZH hw1 hr
  exact Xu hro (eI _ _) hkey a1 k 0 0 r g1 hw1 (ht.ge h1) (by simpa[Nat.mod_one]using hr) (.inl rfl) a2 ⟨λg' h' hw' r hr=>.ret _ _ (q0 hr),λg' h' hw'=>Ur hro hkey n g' hw' (ht.ge (h1.trans h'))⟩
end Go.Ct
end
section
namespace Go.Ct
variable{α β:Type}
def I.acc:I α->Acc
 |.load c _=>⟨1,c,0,0⟩
 |.eA c o n _=>⟨2,c,o,n⟩
 |_=>{}
def I.ended:I α->Option α
 |.ret a=>some a
 |_=>none
def I.step:I α->St->St×I α
 |.load c k,s=>(k (s.load c).2).head (s.load c).1
 |.eA c o n k,s=>(k (s.eA c o n).2).head (s.eA c o n).1
 |t,s=>(s,t)
theorem Sh.acc[Qc α]{u u':I α}{g:Ga}(h:Sh u u' g):u.acc=u'.acc/\u.ended=u'.ended:=by cases h<;>exact⟨rfl,rfl⟩
def JT(r:X×Option Result):X:=match r.2 with
 |some v=>{r.1 with e:={r.1.e with done:=true,result:=v}}
 |none=>r.1
def bX(T:I Result)(free:Nat)(x:X):X:=JT (aX T (cD free x))
structure Rest(T u:I Result)(g:Ga)(e:Ex):Prop where
 rp:Rp g T e.eG e.made e.cells e.dG u
 done:e.done=u.ended.isSome
 next:u.ended=none->e.next=u.acc
 A6:∀r,u.ended=some r->e.result=r
theorem Rest.ge{T u:I Result}{g g':Ga}{e:Ex}(h:Rest T u g e)(k:Ge g g'):Rest T u g' e:=⟨h.rp.ge k,h.done,h.next,h.A6⟩
theorem EL{u u':I Result}{g:Ga}(h:Sh u u' g){x:X}(hx:x=x.atEnd)(hf:x.e.free=0)(hs:x.e.aC=false)(hd:x.e.done=false):
  ∃y,JT (aX u' x)=y/\y.s=x.s/\y.e.eG=x.e.eG/\y.e.made=x.e.made/\y.e.cells=x.e.cells/\y.e.dG=x.e.dG/\y.e.done=u'.ended.isSome/\(u'.ended=none->y.e.next=u'.acc)/\∀r,u'.ended=some r->y.e.result=r:=by
 have ha:x.e.a=x.e.eG.length:=congrArg (λy:X=>y.e.a) hx
 cases h with
 |ret a=>
  rw[UH hs]
  exact⟨_,rfl,rfl,rfl,rfl,rfl,rfl,rfl,(λh=>by cases h),λr h=>by injection h⟩
 |load τ h1 h2=>
  rw[run_load];unfold dY
  rw[if_neg (by rw[hs];decide),if_neg (by omega),if_pos hf]
  exact⟨_,rfl,rfl,rfl,rfl,rfl,rfl,hd,λ_=>rfl,λr h=>by cases h⟩
 |eA τ h1 hm h2=>
  rw[Gk];unfold iB
  rw[if_neg (by rw[hs];decide),if_neg (by omega),if_pos hf]
  exact⟨_,rfl,rfl,rfl,rfl,rfl,rfl,hd,λ_=>rfl,λr h=>by cases h⟩
theorem Rest.start{t T:I Result}{g:Ga}(h:Sm t T g)(hw:GW g){x:X}(ht:nZ g x.s)(h1:x.e.eG=[])(h2:x.e.made=[])(h3:x.e.cells=[])(h4:x.e.dG=[])(hd:x.e.done=false):
  ∃g' u u',t.head x.s=((bX T 0 x).s,u)/\Ge g g'/\GW g'/\nZ g' (bX T 0 x).s/\Sh u u' g'/\Rest T u' g' (bX T 0 x).e/\(bX T 0 x).e.eG=[]/\∀P:Ga->I Result->Prop,P8 P->P g t->P g' u:=by
 have hx:cD 0 x=(cD 0 x).atEnd:=by unfold X.atEnd cD;simp only[h1,h2,h3,h4,List.length_nil]
 obtain⟨g',s',u,u',m,d,e,e1,e2,e3,e4,e5,e6,eP,e7,e8⟩:=h.run hw (cD 0 x) hx ht rfl
 obtain⟨y,f0,f1,f2,f3,f4,f5,f6,f7,f8⟩:=EL e6 (x:=(cD 0 x).more s' m d e) rfl rfl rfl hd
 have hy:bX T 0 x=y:=by unfold bX;rw[e8,f0]
 rw[hy]
 refine⟨g',u,u',by rw[f1];exact e1,e3,e4,by rw[f1];exact e5,e6,⟨?_,f6,f7,f8⟩,by rw[f2];exact h1,eP⟩
 rw[f2,f3,f4,f5]
 show Rp g' T x.e.eG (x.e.made++m) (x.e.cells++d) (x.e.dG++e) u'
 rw[h1,h2,h3,h4];exact e7
theorem Rest.step{T u u':I Result}{g:Ga}{x:X}(h:Rest T u' g x.e)(hs:Sh u u' g)(hw:GW g)(ht:nZ g x.s)(hd:x.e.done=false):
  ∃g' v v',u.step x.s=((bX T 1 x).s,v)/\Ge g g'/\GW g'/\nZ g' (bX T 1 x).s/\Sh v v' g'/\Rest T v' g' (bX T 1 x).e/\(∃a,(bX T 1 x).e.eG=x.e.eG++[a])/\∀P:Ga->I Result->Prop,P8 P->P g u->P g' v:=by
 have hr:=h.rp.run (cD 1 x) ht rfl (dF _) (dF _) (dF _) (dF _) rfl rfl rfl rfl
 have key:∀{g1:Ga} {t t':I Result} {v:Int} {s1:St},Ge g g1->GW g1->nZ g1 s1->Sm t t' g1->aX u' (cD 1 x).atEnd=aX t' (jR v s1 (cD 1 x).atEnd)->Rp g1 T (x.e.eG++[v]) x.e.made x.e.cells x.e.dG t'->
   ∃g' w w',t.head s1=((bX T 1 x).s,w)/\Ge g g'/\GW g'/\nZ g' (bX T 1 x).s/\Sh w w' g'/\Rest T w' g' (bX T 1 x).e/\(∃a,(bX T 1 x).e.eG=x.e.eG++[a])/\∀P:Ga->I Result->Prop,P8 P->P g1 t->P g' w:=by
  intro g1 t t' v s1 hg1 hw1 ht1 hm hq hp
  have hx:jR v s1 (cD 1 x).atEnd=(jR v s1 (cD 1 x).atEnd).atEnd:=by unfold jR X.atEnd cD;simp
  obtain⟨g',s',w,w',m,d,e,e1,e2,e3,e4,e5,e6,eP,e7,e8⟩:=hm.run hw1 _ hx ht1 rfl
  obtain⟨y,f0,f1,f2,f3,f4,f5,f6,f7,f8⟩:=EL e6 (x:=(jR v s1 (cD 1 x).atEnd).more s' m d e) rfl rfl rfl hd
  have hy:bX T 1 x=y:=by unfold bX;rw[hr,hq,e8,f0]
  rw[hy]
  refine⟨g',w,w',by rw[f1];exact e1,hg1.trans e3,e4,by rw[f1];exact e5,e6,⟨?_,f6,f7,f8⟩,⟨v,by rw[f2];rfl⟩,eP⟩
  rw[f2,f3,f4,f5]
  show Rp g' T (x.e.eG++[v]) (x.e.made++m) (x.e.cells++d) (x.e.dG++e) w'
  have:=(hp.ge e3).trans e7
  rwa [List.append_nil]at this
 have base:∀{v:Int} {t':I Result} {g1:Ga},Ge g g1->Rp g1 u' [v] [] [] [] t'->Rp g1 T (x.e.eG++[v]) x.e.made x.e.cells x.e.dG t':=λhg hp=>by
  have:=(h.rp.ge hg).trans hp
  simpa using this
 cases u with
 |ret a=>
  cases hs with
  |ret=>exact absurd h.done (by rw[hd];simp[I.ended])
 |load c k=>
  obtain⟨k',g1,rfl,a1,a2,h1,h2,τ,hc,hv⟩:=hs.XI hw ht
  obtain⟨g',w,w',r1,r2,r3,r4,r5,r6,r7,rP⟩:=key a1 a2 h1 h2 (by
   rw[run_load];unfold dY X.atEnd
   rw[if_neg (by show ¬(false=true);decide),if_neg (by dsimp only;omega),if_neg (by show ¬(1=0);decide)];rfl) (base a1 (.load (.at_ _)))
  exact⟨g',w,w',r1,r2,r3,r4,r5,r6,r7,λP hH p=>rP P hH (hH.load hw p hc a1 a2 hv ⟨_,h2⟩)⟩
 |eA c o n k=>
  obtain⟨k',g1,rfl,a1,a2,h1,h2,τ,hc,hm,hd2⟩:=hs.ZV hw ht
  obtain⟨g',w,w',r1,r2,r3,r4,r5,r6,r7,rP⟩:=key (v:=WK (x.s.eA c o n).2) a1 a2 h1 h2 (by
   rw[Gk];unfold iB X.atEnd
   rw[if_neg (by show ¬(false=true);decide),if_neg (by dsimp only;omega),if_neg (by show ¬(1=0);decide)];rfl) (base a1 (by
    have e:(WK (x.s.eA c o n).2==1)=(x.s.eA c o n).2:=by cases (x.s.eA c o n).2<;>rfl
    refine .eA ?_
    rw[e];exact .at_ _))
  exact⟨g',w,w',r1,r2,r3,r4,r5,r6,r7,λP hH p=>rP P hH (hH.eA hw p hc hm a1 a2 hd2 ⟨_,h2⟩)⟩
 |alloc n i k=>cases hs
 |cell i k=>cases hs
 |gen k=>cases hs
 |node r k=>cases hs
def PG(g:Ga):Prop:=∀n∈g.nodes,n.Fit g.nodes.length
theorem gD.rp{t u:I α}{g:Ga}(hg:PG g){l m d e:List Int}(h:Rp g t l m d e u):∀{j L:Nat} {Q:Nat->Nat->α->Prop},gD t j L Q->L<=g.nodes.length->(∀r∈m,1<=r)->m.length+d.length+e.length<=j+99*l.length:=by
 have hn:∀r,(g.node r).Fit g.nodes.length:=λr=>eK.node (s:=g.st) hg r
 induction h with
 |at_ u=>intro j L Q h hL hm;simp
 |load _ ih=>intro j L Q h hL hm;have:=ih (h _) hL hm;simp only[QR]at *;omega
 |eA _ ih=>intro j L Q h hL hm;have:=ih (h _) hL hm;simp only[QR]at *;omega
 |alloc _ ih=>intro j L Q h hL hm;have:=ih (h.2.2 _ (hm _ (oD ..))) hL (λr hr=>hm r (Dk _ hr));have:=h.1;simp only[QR]at *;omega
 |cell _ ih=>intro j L Q h hL hm;have:=ih (h.2 _) hL hm;have:=h.1;simp only[QR]at *;omega
 |gen _ ih=>intro j L Q h hL hm;have:=ih (h.2 _) hL hm;have:=h.1;simp only[QR]at *;omega
 |node hr _ ih=>intro j L Q h hL hm;exact ih (h _ _ hL (hn _)) (JV _) hm
theorem jN.rp{t u:I α}{g:Ga}{a b:Nat}{Q:α->Prop}(h:jN a b t Q)(hg:PG g){l m d e:List Int}(hr:Rp g t l m d e u)(hm:∀r∈m,1<=r):m.length+d.length+e.length<=a+99*l.length:=
 gD.rp hg hr (h a 0 (JV _)) (dF _) hm
end Go.Ct
end
section
namespace Go.Ct
variable{c:Call}{n:Nat}
theorem EJ(h:refused c≠0):bY c n=.ret {err:=refused c}:=by unfold bY;rw[if_pos h]
theorem FR(h:refused c=0)(hk:c.kind=7):bY c n=tH c n:=by unfold bY;simp[h,hk]
theorem EF(h:refused c=0)(hk:c.kind=8):bY c n=yN c n n:=by unfold bY;simp[h,hk]
theorem ER(h:refused c=0)(hk:c.kind=9):bY c n=pE c n n:=by unfold bY;simp[h,hk]
theorem Xo(h:refused c=0)(hk:c.kind=10):bY c n=iL c.aE false n:=by unfold bY;simp[h,hk]
theorem HF(h:refused c=0)(hk:c.kind=11):bY c n=iL c.aE true n:=by unfold bY;simp[h,hk]
theorem Uk(h:refused c=0)(hk:c.kind=12):bY c n=vK c.aE n:=by unfold bY;simp[h,hk]
theorem JI(h:refused c=0)(hk:c.kind=14):bY c n=zY c.aE n (Mz n) 0 {}:=by unfold bY;simp[h,hk]
theorem vW(h:refused c=0)(hk:c.kind=7\/c.kind=8\/c.kind=9):c.key.size<=64:=by
 by_cases hs:c.key.size<=64
 ·exact hs
 ·have hv:bU c.key=false:=by unfold bU;exact Ab hs
  unfold refused at h
  rw[hv]at h
  rcases hk with hk|hk|hk<;>simp[hk]at h
theorem TQ{T:I Result}{free:Nat}{x y:X}{v:Result}(q:aX T (cD free x)=out y v)(hs:y.e.aC=true):bX T free x=y:=by unfold bX JT;rw[q,iX hs]
theorem SJ{T:I Result}{free:Nat}{x y:X}{v:Result}(q:aX T (cD free x)=out y v)(hs:y.e.aC=false):bX T free x={y with e:={y.e with done:=true,result:=v}}:=by unfold bX JT;rw[q,iK hs]
theorem Ok.ended{j:Nat}{y:X}(h:Ok j y)(d:Bool)(r:Result):Ok j {y with e:={y.e with done:=d,result:=r}}:=⟨h.fit,h.room,h.zP,h.a,h.m,h.c,h.g,h.made,h.free⟩
end Go.Ct
end
section
namespace Go.Ct
theorem Jq(b:Nat):∀(f:Nat) (k:Int),0<=k->k+f=64->(iI b f k=64/\∀j,k<=j->j<64->Bm.has b j=false)\/(k<=iI b f k/\iI b f k<64/\Bm.has b (iI b f k)=true/\∀j,k<=j->j<iI b f k->Bm.has b j=false)
 |0,k,h0,hf=>.inl ⟨by show k=64;omega,λj h1 h2=>by omega⟩
 |f+1,k,h0,hf=>by
  unfold iI
  have hk:decide (k<64)=true:=mI (by omega)
  cases hb:Bm.has b k with
  |true=>rw[hk];exact .inr ⟨JA k,by show k<64;omega,hb,λj h1 h2=>absurd (show j<k from h2) (by omega)⟩
  |false=>
   rw[hk]
   show (iI b f (k+1)=64/\_)\/(k<=iI b f (k+1)/\iI b f (k+1)<64/\Bm.has b (iI b f (k+1))=true/\∀j,k<=j->j<iI b f (k+1)->Bm.has b j=false)
   have hj:∀j,k<=j->(j=k\/k+1<=j):=λj h=>by omega
   rcases Jq b f (k+1) (by omega) (by omega)with⟨h1,h2⟩|⟨h1,h2,h3,h4⟩
   ·exact .inl ⟨h1,λj ha hb2=>(hj j ha).elim (λe=>by rw[e];exact hb) λh=>h2 j h hb2⟩
   ·exact .inr ⟨by omega,h2,h3,λj ha hb2=>(hj j ha).elim (λe=>by rw[e];exact hb) λh=>h4 j h hb2⟩
theorem YO{b:Nat}{k:Int}(h0:0<=k)(h1:k<=64):(eQ b k=64/\∀j,k<=j->j<64->Bm.has b j=false)\/(k<=eQ b k/\eQ b k<64/\Bm.has b (eQ b k)=true/\∀j,k<=j->j<eQ b k->Bm.has b j=false):=
 Jq b _ k h0 (by omega)
theorem T9{b:Nat}{i:Int}(h:i<64)(hb:Bm.has b i=false):iI b (64-i).toNat i=iI b (64-(i+1)).toNat (i+1):=by
 obtain⟨m,hm⟩:∃m:Nat,(64-i).toNat=m+1:=⟨(64-i).toNat -1,by omega⟩
 rw[hm,show (64-(i+1)).toNat=m by omega]
 show (bif decide (i<64)&&!Bm.has b i then iI b m (i+1)else i)=_
 rw[mI h,hb];rfl
theorem SQ{b:Nat}{i:Int}(h:i<64->Bm.has b i=true):iI b (64-i).toNat i=i:=by
 cases hm:(64-i).toNat with
 |zero=>rfl
 |succ m=>
  show (bif decide (i<64)&&!Bm.has b i then iI b m (i+1)else i)=_
  rw[h (by omega),zT,Bool.and_false];rfl
end Go.Ct
end
