/- Parts of a proof: Wq, Ti, Tj, Tk, Ayi, Lo. -/
import Derived.Test.YtnhdmcipglnkfaaGreatW41
set_option linter.unusedVariables false
set_option linter.unusedSimpArgs false
set_option maxRecDepth 100000
set_option maxHeartbeats 4000000
section
namespace Go.Ct
variable{g:Ga}
theorem aC5{t:aX}{key:ByteArray}{h:Nat}:∀(d l k:Nat) (b:eC) (g:Ga) (s:St) (i level:Int),b.1=l->l+d=12->d<=k->Tw g s->Tk g t->fH g i b->(Xe t key h k i level).Al pS (10*d) d s
 |0,l,k,b,g,s,i,level,hb,hd,hk,hT,ht,hi=>by
  have:=((hT.gw.RJ hi).i hi.1).2
  omega
 |d+1,l,0,b,g,s,i,level,hb,hd,hk,hT,ht,hi=>absurd hk (by omega)
 |d+1,l,k+1,b,g,s,i,level,hb,hd,hk,hT,ht,hi=>by
  show (kT t i _).Al pS (10*d+10) (d+1) s
  refine yH hT ht hi λg1 s1 m h1 cY hz hm _ _=>nT (cY.gC.node m) ?_
  have hn:=cY.gw.ofM hz.m
  have pr:∀x:Node,(Yl key x).Al pS (10*d) d s1:=λx=>by
   unfold Yl;cases bO x.key key<;>exact trivial
  rcases nW hz.m with h3|h5|h6
  ·rw[h3]
   cases hl:(aB (g1.node m) (slice h level)).2 with
   |false=>exact trivial
   |true=>
    refine nT (cY.gC.node _) ?_
    rcases(hn.c h3).2.2 _ hl with hI|hS
    ·rw[hI.1]
     exact aC5 d (l+1) k (eA b (slice h level)) g1 s1 _ _ (by show b.1+1=l+1;omega) (by omega) (by omega) cY (ht.ge h1) hI
    ·rw[hS.1];exact pr _
  ·rw[h5];exact pr _
  ·rw[h6]
   show (bif (bN (g1.node m).aH key).2 then _ else _:I Result).Al pS _ _ s1
   cases (bN (g1.node m).aH key).2<;>exact trivial
theorem aEh{c:Call}{s:St}(hT:Tw g s)(hc:nQ g c)(h12:c.kind<=12):(jC c FU).Al pS 1775 1000 s:=by
 have h7:=hc.lo
 unfold jC
 split
 ·unfold RP
  cases !bR c.key with
  |true=>exact trivial
  |false=>
   refine Al.mono (FX (n:=120) (j:=12) (k:=λr=>Xe c.aF c.key (aE c.key c.aI) FU r 0) hT hc.aF λg1 s1 r h1 cY hr _=>?_) (by omega) (by omega)
   exact aC5 12 0 FU (0,0) g1 s1 r 0 rfl rfl (by decide) cY (hc.aF.ge h1) hr
 ·split
  ·rename_i h8;exact Al.mono (aIh (hc.ro (.inl h8)) hT hc.aF) (by omega) (by omega)
  ·split
   ·rename_i h9;exact Al.mono (Y6 (hc.ro (.inr (.inl h9))) hT hc.aF) (by omega) (by omega)
   ·have eF:FU=99999999+1:=rfl
    split
    ·rw[eF];exact Al.mono (aAy false 99999999 hT hc.aF) (by omega) (by omega)
    ·split
     ·rw[eF];exact Al.mono (aAy true 99999999 hT hc.aF) (by omega) (by omega)
     ·(try rw[if_neg (by omega)]);rw[eF]
      exact Al.mono (aDp 99999999 hT hc.aF (hc.ro (.inr (.inr (by omega))))) (by omega) (by omega)
structure DE(g:Ga)(S0 i:Nat)(x:X):Prop where
 ex:∃g' u u',Ge g g'/\GW g'/\oS g' x.s/\cL x.s/\Er g' x.e u u'/\EP g' u/\∃n j,u.Al pS n j x.s/\x.s.size+2*j+n<=S0+4000/\i+n<=1775
 eV:x.e.eV.length<=i
 rm:S0<=80000000000
theorem DE.start{c:Call}{s:St}(hS:s.size<=80000000000)(h12:c.kind<=12)(hw:GW g)(ht:oS g s)(hf:cL s)(hc:nQ g c)(hm:c.aI<18446744073709551616)(hk:c.key.size<=9223372036854775807)(Tr:Ok 50 (cC (cA c FU) 0 ⟨{call:=c},s⟩)):DE g s.size 0 (cC (cA c FU) 0 ⟨{call:=c},s⟩):=by
 obtain⟨g',u,u',h1,h2,h3,h4,h5,h6,h7,_,_,_,hP⟩:=Er.start hw ht hf hc hm hk Tr
 obtain⟨i,hi,hG,_,ha⟩:=Al.head (aEh ⟨hw,ht⟩ hc h12)
 rw[h1]at hG ha
 have:=hG.size
 exact⟨⟨g',u,u',h2,h3,h4,h5,h6,EP.start hw hc h12 hP,1775,1000-i,ha,by dsimp only at this;omega,by omega⟩,by rw[h7];exact aW _,hS⟩
theorem DE.call{S0 i:Nat}{x:X}(h:DE g S0 i x):x.e.call.aI<18446744073709551616/\x.e.call.key.size<=9223372036854775807/\7<=x.e.call.kind/\(x.e.call.kind<=12\/x.e.call.kind<=12):=by
 obtain⟨g',u,u',_,_,_,_,hE,_⟩:=h.ex
 exact⟨hE.aI,hE.key,hE.ok.lo,hE.ok.hi⟩
theorem DE.ready{S0 i:Nat}{x:X}(h:DE g S0 i x)(hs:S0+199*i+120<=room):Ok 60 (cE 1 x)/\(cE 1 x).left<FU:=by
 obtain⟨g',u,u',_,hw,ht,hf,hE,_,n,j,_,h1,_⟩:=h.ex
 exact hE.ready (s:=x.s) ht hf (by have:=h.rm;unfold Ct.room;omega)
theorem DE.step{S0 i:Nat}{x:X}(h:DE g S0 i x)(hd:x.e.done=false)(hi:i<Jp)(Tr:Ok 50 (cC (cA x.e.call FU) 1 x)):DE g S0 (i+1) (cC (cA x.e.call FU) 1 x):=by
 obtain⟨g',u,u',k,hw,ht,hf,hE,hS,n,j,ha,hz,hin⟩:=h.ex
 obtain⟨g2,v,v',h0,k2,h2,h3,h4,h5,h6,h7,h8,hP⟩:=hE.step (s:=x.s) hw ht hf hd (Sc h.eV hi) Tr
 have he:u.ended=none:=by
  have:=hE.same.1
  rw[hd]at this
  cases hu:u.ended with
  |none=>rfl
  |some r=>rw[hu]at this;cases this
 obtain⟨hn,q,s1,b1,b2,b3,b4,b5,b6,b7⟩:=Wg ha hE.sh.rest he
 rw[h0]at b5 b7
 have b8:(cC (cA x.e.call FU) 1 x).s.size<=s1.size+2*q:=b5.size
 have hg:=h.eV
 exact⟨⟨g2,v,v',k.trans k2,h2,h3,h4,h5,hS.step hP,n-1,j-q,b7,by omega,by omega⟩,by rw[show (cC (cA x.e.call FU) 1 x).e.eV.length=x.e.eV.length+1 from h6];omega,h.rm⟩
theorem DE.aOb{S0 i n:Nat}{x:X}(h:DE g S0 i x)(hi:i<=n)(hn:n<=15\/n=1048576):x.s.size<=S0+AW/\(i=n->i<=XE):=by
 obtain⟨g',u,u',k,hw,ht,hf,hE,_,m,j,ha,hz,hin⟩:=h.ex
 exact⟨by unfold AW;omega,λe=>by unfold XE;omega⟩
theorem DE.er{S0 i:Nat}{x:X}(h:DE g S0 i x):∃g' u u',Ge g g'/\GW g'/\oS g' x.s/\cL x.s/\Er g' x.e u u'/\EP g' u:=by
 obtain⟨g',u,u',a,b,c,d,e,f,_⟩:=h.ex
 exact⟨g',u,u',a,b,c,d,e,f⟩
theorem Mx.pP{k n i b:Nat}{s:St}{ts:List aX}{zs:List (Nat×Ex)}{x:X}(h:Mx k g s ts zs)(hx:DE g s.size i x)(hi:i<=n)(hq:x.e.done=true\/i=n)(hn:n<=15\/n=1048576):∃g',Mx (k+1) g' x.s (Qm ts x.e) (NS zs b x.e):=by
 obtain⟨g',u,u',hk,hw,ht,hf,hE,hS⟩:=DE.er hx
 obtain⟨f1,f2⟩:=DE.aOb hx hi hn
 have hT:∀t∈ts,Tk g' t:=λt m=>(h.SX t m).ge hk
 have hZ:∀z∈zs,z.2.eV.length<=XE+(k+1)/\∃u u',Er g' z.2 u u'/\EP g' u:=λz m=>by
  obtain⟨h1,v,v',h2,h3⟩:=h.ex z m
  exact⟨by omega,v,v',h2.ge h.gw hk,h3.ge h2.sh h.gw hk hw⟩
 have hs:x.s.size<=AW*(k+1+1):=by have:=h.small;unfold AW at *;omega
 have h5:=h.NM
 have h0:=h.some
 refine⟨g',hw,ht,hf,?_,?_,?_,?_,?_,?_,hs⟩
 ·unfold Qm
  split
  ·rename_i hc
   intro t m
   rcases List.mem_append.1 m with m|m
   ·exact hT t m
   ·rw[List.mem_singleton.1 m]
    rcases hE.result hc.1 with hr|hr
    ·omega
    ·exact hr
  ·exact hT
 ·unfold Qm
  split
  ·rw[cK,vS h0,<- cK];exact h.first
  ·exact h.first
 ·unfold Qm;split
  ·rw[cV];omega
  ·exact h0
 ·unfold Qm
  split
  ·rename_i hc
   rw[cV,fR];omega
  ·exact h5
 ·unfold NS
  split
  ·exact hZ
  ·rename_i hd
   intro z m
   rcases List.mem_append.1 m with m|m
   ·exact hZ z m
   ·rw[List.mem_singleton.1 m]
    have hg:=hx.eV
    have:=f2 (hq.resolve_left hd)
    exact⟨by show x.e.eV.length<=_;omega,u,u',hE,hS⟩
 ·have:=h.xT
  unfold NS;split
  ·omega
  ·rw[cV,fR];omega
end Go.Ct
end
section
namespace Go.Q9
open Go.Proofs.Tryz
open Go.RowKit Go.E
attribute [local irreducible] gA wpS Go.E.X XS C kV lL fin Y U F Ca kU bl rb aV bS ex ce pu sK gK bK zK gG fE cZ gY mA rQ
variable{B w:World}{L:List As}
theorem I5(b mb aI k n:Nat)(s:Ct.St)(ts:List Ct.aX)(zs:List (Nat×Ct.Ex))(g:Ct.Ga)(c:Ct.Call)(h:SH B w (sL b mb aI ts zs::lU mb zs::dX mb s::L))(hW:Ct.Mx k g s ts zs)(hk:k<=40)(hc:Ct.nQ g c)(hm:c.aI<18446744073709551616)(vE:c.key.size<=9223372036854775807)(hn:n<=15\/n=1048576)(h12:c.kind<=12):
  Calls prog 32 #[↑b,.agg [↑c.kind,↑c.aF.root,↑c.aF.readOnly,↑c.a,↑c.b,↑c.n,↑c.index,.int .u64 (c.hash:Int),.int .u64 (c.aI:Int),↑c.key,.int .u64 (c.value:Int),.int .u64 (c.expect:Int),↑c.bF,↑c.only,↑c.walk.started,.slice none 0 0,.slice none 0 0,↑c.answer.err,↑c.answer.found,.int .u64 (c.answer.value:Int),↑c.answer.key,↑c.answer.count,↑c.answer.ref,↑c.answer.aF.root,↑c.answer.aF.readOnly].toArray,↑(n:Int)] w λe w'=>∃g' s' ts' zs',Ct.Mx (k+1) g' s' ts' zs'/\e=.returned (.tuple #[])/\SH B w' (sL b mb aI ts' zs'::lU mb zs'::dX mb s'::L):=by
 have aCs:s.size<=Ct.room:=by have:=hW.size;unfold Ct.room;omega
 obtain⟨⟨twp,twc,xwp,xwc⟩,h⟩:=h.wo
 have h:SH B w (bl b ([↑mb,.int .u64 (aI:Int),.slice twp ts.length twc,.slice xwp zs.length xwc]) 32::aV 35 2 (.slice twp ts.length twc) ts.length (ts.flatMap dV)::aV 81 1 (.slice xwp zs.length xwc) zs.length (zs.flatMap Sf)::lU mb zs::dX mb s::L):=h
 refine cN func32 ntmps32 h λw h=>?_
 refine jX h λb1 w h=>?_
 refine fD [1,3,5,7,9,10,12] (by kernel_rfl) h (.c r1 (.c r0 .n)) λw h=>go h λw h=>?_
 refine aNk (XK _ _ c _ h.to (Ct.zI hW.fit aCs).1 (Ct.zI hW.fit aCs).2 (by decide) hm vE hc.lo hc.hi) λxb2 w h k=>?_
 have hl:=Ct.DE.start (by have:=hW.size;omega) h12 hW.gw hW.gC hW.fit hc hm vE k
 refine go h λw h=>?_
 refine lp (α:=Ct.X×Nat) (λρ=>(.c 0 ↑b (.c 2 ↑(n:Int) (.c 6 ↑xb2 (.c 7 (.int .i64 (ρ.2:Int)) .n))))) (λρ w=>SH B w (XA xb2 mb ρ.1::bl b1 ([↑c.kind,↑c.aF.root,↑c.aF.readOnly,↑c.a,↑c.b,↑c.n,↑c.index,.int .u64 (c.hash:Int),.int .u64 (c.aI:Int),↑c.key,.int .u64 (c.value:Int),.int .u64 (c.expect:Int),↑c.bF,↑c.only,↑c.walk.started,.slice none 0 0,.slice none 0 0,↑c.answer.err,↑c.answer.found,.int .u64 (c.answer.value:Int),↑c.answer.key,↑c.answer.count,↑c.answer.ref,↑c.answer.aF.root,↑c.answer.aF.readOnly]) 60::bl b ([↑mb,.int .u64 (aI:Int),.slice twp ts.length twc,.slice xwp zs.length xwc]) 32::aV 35 2 (.slice twp ts.length twc) ts.length (ts.flatMap dV)::aV 81 1 (.slice xwp zs.length xwc) zs.length (zs.flatMap Sf)::lU mb zs::L)/\(Ct.DE g s.size ρ.2 ρ.1)/\(ρ.2<=n)) (λρ=>n-ρ.2) ((Ct.cC (Ct.cA c Ct.FU) 0 (⟨{call:=c},s⟩:Ct.X)),0) ⟨rfl,rfl,rfl,rfl,trivial⟩ ⟨h,hl,(bZ _)⟩ ?_
 rintro⟨y,i⟩ w ⟨h,hl,hi⟩
 dsimp only at *
 refine go h λw h=>?_
 refine bQ (JM _ _ _ h.to) λw h=>?_
 refine qg h (λcJ w h=>?_) λcJ w h=>?_
 ·have eB:y.e.done=false:=(gZ _).mp cJ
  refine go h λw h=>?_
  refine qc h (λdM w h=>?_) λdM w h=>?_
  ·have CX:=dH dM
   refine go h λw h=>?_
   have hrd:s.size+199*i+120<=Ct.room:=by have:=hW.size;unfold Ct.room;omega
   refine go h λw h=>?_
   refine aDu (G9 _ _ _ _ h.to eB (hl.ready hrd).1 (hl.ready hrd).2 (by decide) hl.call.1 hl.call.2.1 hl.call.2.2.1 hl.call.2.2.2) λw h k=>?_
   exact⟨((Ct.cC (Ct.cA y.e.call Ct.FU) 1 y),(i+1)),⟨rfl,rfl,rfl,rfl,trivial⟩,⟨h,(hl.step eB (by unfold Ct.Jp;omega) k),by(try dsimp only);omega⟩,by(try dsimp only);omega⟩
  ·have El:=dR dM
   refine go h λw h=>?_
   have h:=h.fr (.c r2 (.c r2 (.c r2 .n)))
   have h:SH B w (sL b mb aI ts zs::XA xb2 mb y::bl b1 ([↑c.kind,↑c.aF.root,↑c.aF.readOnly,↑c.a,↑c.b,↑c.n,↑c.index,.int .u64 (c.hash:Int),.int .u64 (c.aI:Int),↑c.key,.int .u64 (c.value:Int),.int .u64 (c.expect:Int),↑c.bF,↑c.only,↑c.walk.started,.slice none 0 0,.slice none 0 0,↑c.answer.err,↑c.answer.found,.int .u64 (c.answer.value:Int),↑c.answer.key,↑c.answer.count,↑c.answer.ref,↑c.answer.aF.root,↑c.answer.aF.readOnly]) 60::lU mb zs::L):=SH.wi ⟨twp,twc,xwp,xwc⟩ h
   refine go h λw h=>?_
   refine bQ (IN b mb xb2 aI ts zs y h.to hW.NM (by have:=hW.xT;omega)) λw h=>?_
   refine rn (wC rfl) ?_
   obtain⟨g',hW'⟩:=hW.pP (b:=xb2) (n:=n) hl hi (by first|exact .inl (by assumption)|exact .inr (by omega)) hn
   exact⟨g',_,_,_,hW',rfl,h.to⟩
 ·have fG:y.e.done=true:=(hU _).mp cJ
  refine go h λw h=>?_
  have h:=h.fr (.c r2 (.c r2 (.c r2 .n)))
  have h:SH B w (sL b mb aI ts zs::XA xb2 mb y::bl b1 ([↑c.kind,↑c.aF.root,↑c.aF.readOnly,↑c.a,↑c.b,↑c.n,↑c.index,.int .u64 (c.hash:Int),.int .u64 (c.aI:Int),↑c.key,.int .u64 (c.value:Int),.int .u64 (c.expect:Int),↑c.bF,↑c.only,↑c.walk.started,.slice none 0 0,.slice none 0 0,↑c.answer.err,↑c.answer.found,.int .u64 (c.answer.value:Int),↑c.answer.key,↑c.answer.count,↑c.answer.ref,↑c.answer.aF.root,↑c.answer.aF.readOnly]) 60::lU mb zs::L):=SH.wi ⟨twp,twc,xwp,xwc⟩ h
  refine go h λw h=>?_
  refine bQ (IN b mb xb2 aI ts zs y h.to hW.NM (by have:=hW.xT;omega)) λw h=>?_
  refine rn (wC rfl) ?_
  obtain⟨g',hW'⟩:=hW.pP (b:=xb2) (n:=n) hl hi (by first|exact .inl (by assumption)|exact .inr (by omega)) hn
  exact⟨g',_,_,_,hW',rfl,h.to⟩
end Go.Q9
end
section
namespace Go.Q9
open Go.Proofs.Tryz
open Go.RowKit Go.E
attribute [local irreducible] gA wpS
theorem m7{b:Nat}{e:Ct.Ex}:∀{zs:List (Nat×Ct.Ex)} {j:Nat} (hj:j<zs.length),zs[j].1=b->(zs.set j (b,e)).flatMap Sf=zs.flatMap Sf
 |z::zs,0,_,hb=>by
  have hb:z.1=b:=hb
  subst hb;rfl
 |z::zs,j+1,h,hb=>by
  have ih:=m7 (e:=e) (zs:=zs) (j:=j) (by simpa using h) (by simpa using hb)
  show Sf z++(zs.set j (b,e)).flatMap Sf=Sf z++zs.flatMap Sf
  rw[ih]
variable{B w:World}{L:List As}
theorem XZ(mb k j:Nat)(s:Ct.St)(ts:List Ct.aX)(zs:List (Nat×Ct.Ex))(g:Ct.Ga)(h:SH B w (lU mb zs::dX mb s::L))(hW:Ct.Mx k g s ts zs)(hk:k<=40)(hj:j<zs.length):
  Calls prog 33 #[.pointer (some ⟨(zs.getD j (0,{})).1,0,none⟩)] w λe w'=>∃g' s' zs',Ct.Mx (k+1) g' s' ts zs'/\zs'.length=zs.length/\zs'.flatMap Sf=zs.flatMap Sf/\e=.returned (.tuple #[])/\SH B w' (lU mb zs'::dX mb s'::L):=by
 have hg:zs.getD j (0,{})=zs[j]:=by rw[cK,fV hj];rfl
 rw[hg]
 have h:=SH.aJn hj h
 have hr:=hW.ready (i:=0) hk (uY hj)
 cases hd:zs[j].2.done with
 |true=>
  refine(aEf zs[j].1 mb ⟨zs[j].2,s⟩ h hd).mono ?_
  rintro _ w ⟨rfl,h⟩
  have h:=SH.aBf hj h
  rw[show zs.set j (zs[j].1,zs[j].2)=zs from List.set_getElem_self hj]at h
  exact⟨g,s,zs,hW.mono (by omega),rfl,rfl,rfl,h⟩
 |false=>
  refine(G9 zs[j].1 mb ⟨zs[j].2,s⟩ Ct.FU h hd hr.1 hr.2.1 (by decide) hr.2.2.1 hr.2.2.2.1 hr.2.2.2.2.1 hr.2.2.2.2.2).mono ?_
  rintro _ w ⟨rfl,h,k1⟩
  obtain⟨g',hW'⟩:=hW.step hk hj hd k1
  exact⟨g',_,_,hW',tS,m7 hj rfl,rfl,SH.aBf hj h⟩
end Go.Q9
end
section
namespace Go.Q9
open Go.Proofs.Tryz
open Go.RowKit Go.E
attribute [local irreducible] gA wpS
def zS:List Int:=[8,8,8,9,9,10,11,12,7,8]
theorem TE(j:Nat)(h:j<10):7<=zS.getD j 0/\zS.getD j 0<=12:=(by decide:∀x,x∈zS->7<=x/\x<=12) _ (mF h)
variable{B w:World}{L:List As}
theorem LD(l:List Int)(p:Option Addr)(c:Nat)(h:SH B w (bS 1 (.slice p l.length c) l.length (l.map (Value.int .i64))::L)):
  Calls prog 6 #[.slice p l.length c] w λe w'=>∃b mb aI g s ts zs,aI<18446744073709551616/\Ct.Mx 36 g s ts zs/\e=.returned (.pointer (some ⟨b,0,none⟩))/\SH B w' (sL b mb aI ts zs::lU mb zs::dX mb s::L):=by
 refine Kk (args:=[_]) func6 rfl ntmps6 rfl ?_
 refine sq<|rg<|st (sg rfl)<|xe<|nx<|sq<|rg<|st (mv rfl)<|cl (ca eF rfl) ((aBb l p c (h.fr (.c r0 .n))).mono ?_)
 rintro _ w ⟨Ej,rfl,h⟩
 refine⟨_,rfl,?_⟩
 refine st (sg rfl)<|xe<|nx<|sq<|rg<|cl (ca eF rfl) ((RT (h.fr .n)).mono ?_)
 rintro _ w ⟨mb,rfl,h⟩
 refine⟨_,rfl,?_⟩
 refine st (mv rfl)<|cl (ca eF rfl) ((aE8 Ej l (h.fr (.c r1 .n))).mono ?_)
 rintro _ w ⟨Uc,hm3,rfl,h⟩
 refine⟨_,rfl,?_⟩
 refine st (bd [↑mb,.int .u64 (Uc:Int),.slice none 0 0,.slice none 0 0] aJl rfl (by kernel_rfl))<|sf (bx h rfl rfl)<|?_
 rintro _ w ⟨b4,rfl,h⟩
 refine st (sg rfl)<|xe<|nx<|sq<|rg<|st (mv rfl)<|st (mv rfl)<|st (nc rfl rfl)<|st (fa V3 rfl)<|st (ld Ov rfl (h.c a0 rfl))<|cl (ca eF rfl) ((Qb mb {} (h.fr (.c r2 .n)) (by decide)).mono ?_)
 rintro _ w ⟨rfl,h⟩
 refine⟨_,rfl,?_⟩
 refine sf (bu (dV (Ct.lY {}).2) h Qo aBg rfl (by kernel_rfl) rfl (by decide) (by decide))<|?_
 rintro _ w ⟨b5,rfl,h⟩
 refine st (nc rfl rfl)<|st (fa wZ rfl)<|sf (so h rfl rfl rfl aB1 rfl (.s (.s (.r .d))) u2)<|?_
 rintro _ w h
 refine xe<|nx<|sq<|sq<|?_
 have h:=(h.fr (.c r2 (.c r0 (.c r0 (.c r0 .n)))))
 have h:=SH.nil 81 1 (SH.aI0 (mb:=mb) h)
 have h:=h.fr (.c r2 (.c r2 (.c r0 (.c r0 .n))))
 have h:SH B w (sL b4 mb Uc [(Ct.lY {}).2] []::lU mb []::dX mb (Ct.lY {}).1::nO Ej l::L):=SH.wi (ts:=[(Ct.lY {}).2]) (zs:=[]) ⟨some ⟨b5,0,none⟩,1,none,0⟩ h
 obtain⟨g0,YC⟩:=Ct.aO0
 refine rg<|st (sg rfl)<|xe<|nx<|bk<|?_
 refine lp (α:=Nat×Ct.Ga×Ct.St×List Ct.aX×List (Nat×Ct.Ex)) (λρ=>(.c 3 ↑Ej (.c 4 ↑b4 (.c 5 (.int .i64 (ρ.1:Int)) .n)))) (λρ w=>SH B w (sL b4 mb Uc ρ.2.2.2.1 ρ.2.2.2.2::lU mb ρ.2.2.2.2::dX mb ρ.2.2.1::nO Ej l::L)/\(Ct.Mx (2*ρ.1) ρ.2.1 ρ.2.2.1 ρ.2.2.2.1 ρ.2.2.2.2)/\(ρ.1<=18)) (λρ=>18-ρ.1) (0,g0,(Ct.lY {}).1,[(Ct.lY {}).2],[]) ⟨rfl,rfl,rfl,trivial⟩ ⟨h,YC,(bZ _)⟩ ?_
 rintro⟨i,g,s,ts,zs⟩ w ⟨h,hW,hi⟩
 dsimp only at *
 refine sq<|sq<|rg<|st (mv rfl)<|st (bi rfl rfl rfl)<|st (mv rfl)<|?_
 rcases dQ (decide (((i:Int):Int)<18))with dJ|dJ
 have El:=dH dJ
 refine gT rfl rfl dJ<|st (mv rfl)<|gT rfl rfl dJ<|cl (ca eF rfl) ((aDe Ej l (h.fr (.c r3 .n))).mono ?_)
 rintro _ w ⟨r8,rfl,h⟩
 refine⟨_,rfl,?_⟩
 refine st (pT rfl dJ rfl)<|xe<|nx<|?_
 rcases dQ r8 with wE|wE
 refine ct rfl wE<|sk<|nx<|sq<|bk<|sq<|rg<|sf (bu [.int .i64 8,.int .i64 8,.int .i64 8,.int .i64 9,.int .i64 9,.int .i64 10,.int .i64 11,.int .i64 12,.int .i64 7,.int .i64 8] h Wi aDs rfl (by kernel_rfl) rfl (by decide) (by decide))<|?_
 rintro _ w ⟨DJ,rfl,h⟩
 refine st (mv rfl)<|?_
 have h:SH B w (aV 3 1 (.slice (some ⟨DJ,0,none⟩) 10 10) 10 (zS.map (Value.int .i64))::nO Ej l::sL b4 mb Uc ts zs::lU mb zs::dX mb s::L):=h
 refine cl (ca eF rfl) ((fZ Ej l 10 (h.fr (.c r1 .n)) (by omega) (by omega)).mono ?_)
 rintro _ w ⟨S5,bD8,rfl,h⟩
 refine⟨_,rfl,?_⟩
 refine st (ix (j:=S5) Wi Gu rfl rfl (by first|omega|(show _<10;omega)))<|st (ld jZ rfl ((h.ro a1).i (by first|omega|(show _<10;omega))))<|st (sg rfl)<|xe<|nx<|?_
 refine sm (λe w=>∃kd:Int,Sub 100 e (.c 3 ↑Ej (.c 4 ↑b4 (.c 5 ↑(i:Int) (.c 6 ↑kd (.c 28 ↑Ej (.c 29 ↑r8 .n))))))/\SH B w (sL b4 mb Uc ts zs::lU mb zs::dX mb s::nO Ej l::L)/\(7<=kd/\kd<=12)) ?_ ?_
 refine sq<|rg<|st (mv rfl)<|st (bi rfl rfl rfl)<|st (mv rfl)<|?_
 rcases dQ ((zS.getD S5 0:Int)==12)with eJ|eJ
 have CW:=eq_of_beq eJ
 refine gT rfl rfl eJ<|st (mv rfl)<|gT rfl rfl eJ<|?_
 refine cl (ca eF rfl) ((fZ Ej l 3 (h.fr (.c r0 .n)) (by omega) (by omega)).mono ?_)
 rintro _ w ⟨j15,bCt,rfl,h⟩
 refine⟨_,rfl,?_⟩
 refine gT rfl rfl eJ<|st (bi rfl rfl rfl)<|st (pT rfl eJ rfl)<|xe<|nx<|?_
 rcases dQ (decide (((j15:Int):Int)>0))with oR|oR
 have N0:=dH oR
 refine ct rfl oR<|rg<|st (sg rfl)<|xe<|nx<|?_
 exact⟨8,⟨rfl,rfl,rfl,rfl,rfl,rfl,trivial⟩,((h.fr (.c r1 .n)).drop.fr (.c r1 (.c r1 (.c r1 (.c r0 .n))))),(by decide)⟩
 have aAt:=dR oR
 refine cf rfl oR<|sk<|nx<|?_
 exact⟨zS.getD S5 0,⟨rfl,rfl,rfl,rfl,rfl,rfl,trivial⟩,((h.fr (.c r1 .n)).drop.fr (.c r1 (.c r1 (.c r1 (.c r0 .n))))),(by have:=TE S5 (by omega);have hz:zS.getD S5 0=zS.getD S5 0:=rfl;omega)⟩
 have YK:=bM eJ
 refine gF rfl rfl eJ<|gF rfl rfl eJ<|gF rfl rfl eJ<|st (pF rfl eJ rfl)<|xe<|nx<|cF rfl<|sk<|nx<|?_
 exact⟨zS.getD S5 0,⟨rfl,rfl,rfl,rfl,rfl,rfl,trivial⟩,((h.fr (.c r1 .n)).drop.fr (.c r1 (.c r1 (.c r1 (.c r0 .n))))),(by have:=TE S5 (by omega);have hz:zS.getD S5 0=zS.getD S5 0:=rfl;omega)⟩
 rintro e w ⟨kd,hE,h,hkd⟩
 refine C.sub hE ?_
 clear hE e
 refine sq<|rg<|st (mv rfl)<|st (mv rfl)<|st (mv rfl)<|cl (ca eF rfl) ((Wj b4 mb Ej Uc ts zs l kd (h.fr (.c r0 (.c r2 .n))) hW.some hW.NM (by omega) (by omega) hW.first).mono ?_)
 rintro _ w ⟨c,hck,hcm,hcy,hct,hcr,rfl,h⟩
 have ZH:=hW.A5 (c:=c) (by omega) (by omega) hct hcr
 have K4:c.aI<18446744073709551616:=by omega
 refine⟨_,rfl,?_⟩
 refine sf (al h Ft)<|?_
 rintro _ w ⟨b21,rfl,h⟩
 refine sf (so h rfl rfl rfl Aa rfl (.r (.r (.r (.r (.r (.r (.r (.r (.r (.r (.r (.r (.r (.r (.r (.r (.r (.r (.r (.r (.r (.r (.r (.r (.r .d))))))))))))))))))))))))) u0)<|?_
 rintro _ w h
 refine xe<|nx<|?_
 refine sm (λe w=>∃cb:Nat,∃c2:Ct.Call,Sub 100 e (.c 3 ↑Ej (.c 4 ↑b4 (.c 5 ↑(i:Int) (.c 7 ↑cb (.c 28 ↑Ej (.c 29 ↑r8 .n))))))/\SH B w (bl cb ([↑c2.kind,↑c2.aF.root,↑c2.aF.readOnly,↑c2.a,↑c2.b,↑c2.n,↑c2.index,.int .u64 (c2.hash:Int),.int .u64 (c2.aI:Int),↑c2.key,.int .u64 (c2.value:Int),.int .u64 (c2.expect:Int),↑c2.bF,↑c2.only,↑c2.walk.started,.slice none 0 0,.slice none 0 0,↑c2.answer.err,↑c2.answer.found,.int .u64 (c2.answer.value:Int),↑c2.answer.key,↑c2.answer.count,↑c2.answer.ref,↑c2.answer.aF.root,↑c2.answer.aF.readOnly]) 60::sL b4 mb Uc ts zs::lU mb zs::dX mb s::nO Ej l::L)/\(Ct.nQ g c2/\c2.aI<18446744073709551616/\c2.key.size<=8/\c2.kind<=12)) ?_ ?_
 refine sq<|rg<|st (mv rfl)<|st (bi rfl rfl rfl)<|st (mv rfl)<|?_
 rcases dQ ((kd:Int)==8)with mW|mW
 have aAp:=eq_of_beq mW
 refine gT rfl rfl mW<|st (mv rfl)<|gT rfl rfl mW<|?_
 refine cl (ca eF rfl) ((fZ Ej l 3 (h.fr (.c r2 .n)) (by omega) (by omega)).mono ?_)
 rintro _ w ⟨j24,aOx,rfl,h⟩
 refine⟨_,rfl,?_⟩
 refine gT rfl rfl mW<|st (bi rfl rfl rfl)<|st (pT rfl mW rfl)<|xe<|nx<|?_
 rcases dQ (decide (((j24:Int):Int)>0))with kQ|kQ
 have aAf:=dH kQ
 refine ct rfl kQ<|rg<|st (fa B7 rfl)<|sf (so h rfl rfl rfl Gu rfl (.s (.s (.s (.s (.s (.s (.s (.s (.s (.s (.s (.s (.r .d))))))))))))) u1)<|?_
 rintro _ w h
 refine xe<|nx<|?_
 exact⟨b21,({c with bF:=0}:Ct.Call),⟨rfl,rfl,rfl,rfl,rfl,rfl,trivial⟩,(h.fr (.c r1 (.c r1 (.c r1 (.c r1 (.c r0 .n)))))),⟨⟨ZH.lo,ZH.hi,ZH.aF,ZH.ro⟩,K4,hcy,(show c.kind<=12 by omega)⟩⟩
 have aAi:=dR kQ
 refine cf rfl kQ<|sk<|nx<|?_
 exact⟨b21,c,⟨rfl,rfl,rfl,rfl,rfl,rfl,trivial⟩,(h.fr (.c r1 (.c r1 (.c r1 (.c r1 (.c r0 .n)))))),⟨⟨ZH.lo,ZH.hi,ZH.aF,ZH.ro⟩,K4,hcy,(show c.kind<=12 by omega)⟩⟩
 have aYj:=bM mW
 refine gF rfl rfl mW<|gF rfl rfl mW<|gF rfl rfl mW<|st (pF rfl mW rfl)<|xe<|nx<|cF rfl<|sk<|nx<|?_
 exact⟨b21,c,⟨rfl,rfl,rfl,rfl,rfl,rfl,trivial⟩,(h.fr (.c r0 (.c r0 (.c r1 (.c r1 (.c r0 .n)))))),⟨⟨ZH.lo,ZH.hi,ZH.aF,ZH.ro⟩,K4,hcy,(show c.kind<=12 by omega)⟩⟩
 rintro e w ⟨cb,c2,hE,h,Nv⟩
 refine C.sub hE ?_
 clear hE e
 refine sq<|rg<|st (sg rfl)<|xe<|nx<|?_
 refine sm (λe w=>∃n:Nat,Sub 100 e (.c 3 ↑Ej (.c 4 ↑b4 (.c 5 ↑(i:Int) (.c 7 ↑cb (.c 8 ↑(n:Int) (.c 28 ↑Ej (.c 29 ↑r8 .n)))))))/\SH B w (bl cb ([↑c2.kind,↑c2.aF.root,↑c2.aF.readOnly,↑c2.a,↑c2.b,↑c2.n,↑c2.index,.int .u64 (c2.hash:Int),.int .u64 (c2.aI:Int),↑c2.key,.int .u64 (c2.value:Int),.int .u64 (c2.expect:Int),↑c2.bF,↑c2.only,↑c2.walk.started,.slice none 0 0,.slice none 0 0,↑c2.answer.err,↑c2.answer.found,.int .u64 (c2.answer.value:Int),↑c2.answer.key,↑c2.answer.count,↑c2.answer.ref,↑c2.answer.aF.root,↑c2.answer.aF.readOnly]) 60::sL b4 mb Uc ts zs::lU mb zs::dX mb s::nO Ej l::L)/\(n<=15\/n=1048576)) ?_ ?_
 refine sq<|?_
 have h:=h.fr (.c r1 .n)
 obtain⟨⟨JU,KA,KK,KH⟩,h⟩:=h.wo
 have h:SH B w (bl b4 ([↑mb,.int .u64 (Uc:Int),.slice JU ts.length KA,.slice KK zs.length KH]) 32::aV 35 2 (.slice JU ts.length KA) ts.length (ts.flatMap dV)::aV 81 1 (.slice KK zs.length KH) zs.length (zs.flatMap Sf)::bl cb ([↑c2.kind,↑c2.aF.root,↑c2.aF.readOnly,↑c2.a,↑c2.b,↑c2.n,↑c2.index,.int .u64 (c2.hash:Int),.int .u64 (c2.aI:Int),↑c2.key,.int .u64 (c2.value:Int),.int .u64 (c2.expect:Int),↑c2.bF,↑c2.only,↑c2.walk.started,.slice none 0 0,.slice none 0 0,↑c2.answer.err,↑c2.answer.found,.int .u64 (c2.answer.value:Int),↑c2.answer.key,↑c2.answer.count,↑c2.answer.ref,↑c2.answer.aF.root,↑c2.answer.aF.readOnly]) 60::lU mb zs::dX mb s::nO Ej l::L):=h
 refine rg<|st (mv rfl)<|st (nc rfl rfl)<|st (fa Hi rfl)<|st (ld AZ rfl (h.c a0 rfl))<|st (ln JA rfl rfl)<|st (bi rfl rfl rfl)<|st (mv rfl)<|?_
 rcases dQ (decide (((zs.length:Int):Int)<3))with mE|mE
 have aL5:=dH mE
 refine gT rfl rfl mE<|st (mv rfl)<|gT rfl rfl mE<|?_
 refine cl (ca eF rfl) ((fZ Ej l 4 (h.fr (.c r6 .n)) (by omega) (by omega)).mono ?_)
 rintro _ w ⟨j36,bAr,rfl,h⟩
 refine⟨_,rfl,?_⟩
 refine gT rfl rfl mE<|st (bi rfl rfl rfl)<|st (pT rfl mE rfl)<|xe<|nx<|?_
 rcases dQ (((j36:Int):Int)==0)with Jt|Jt
 have aKl:=eq_of_beq Jt
 refine ct rfl Jt<|rg<|st (mv rfl)<|?_
 refine cl (ca eF rfl) ((fZ Ej l 16 (h.fr (.c r0 .n)) (by omega) (by omega)).mono ?_)
 rintro _ w ⟨j40,aRs,rfl,h⟩
 refine⟨_,rfl,?_⟩
 refine st (sg rfl)<|xe<|nx<|?_
 have h:=h.fr (.c r1 (.c r1 (.c r1 .n)))
 have h:SH B w (sL b4 mb Uc ts zs::nO Ej l::bl cb ([↑c2.kind,↑c2.aF.root,↑c2.aF.readOnly,↑c2.a,↑c2.b,↑c2.n,↑c2.index,.int .u64 (c2.hash:Int),.int .u64 (c2.aI:Int),↑c2.key,.int .u64 (c2.value:Int),.int .u64 (c2.expect:Int),↑c2.bF,↑c2.only,↑c2.walk.started,.slice none 0 0,.slice none 0 0,↑c2.answer.err,↑c2.answer.found,.int .u64 (c2.answer.value:Int),↑c2.answer.key,↑c2.answer.count,↑c2.answer.ref,↑c2.answer.aF.root,↑c2.answer.aF.readOnly]) 60::lU mb zs::dX mb s::L):=SH.wi ⟨JU,KA,KK,KH⟩ h
 exact⟨j40,⟨rfl,rfl,rfl,rfl,rfl,rfl,rfl,trivial⟩,(h.fr (.c r2 (.c r0 (.c r1 (.c r1 (.c r0 .n)))))),(by omega)⟩
 have aGf:=bM Jt
 refine cf rfl Jt<|sk<|nx<|?_
 have h:=h.fr (.c r1 (.c r1 (.c r1 .n)))
 have h:SH B w (sL b4 mb Uc ts zs::nO Ej l::bl cb ([↑c2.kind,↑c2.aF.root,↑c2.aF.readOnly,↑c2.a,↑c2.b,↑c2.n,↑c2.index,.int .u64 (c2.hash:Int),.int .u64 (c2.aI:Int),↑c2.key,.int .u64 (c2.value:Int),.int .u64 (c2.expect:Int),↑c2.bF,↑c2.only,↑c2.walk.started,.slice none 0 0,.slice none 0 0,↑c2.answer.err,↑c2.answer.found,.int .u64 (c2.answer.value:Int),↑c2.answer.key,↑c2.answer.count,↑c2.answer.ref,↑c2.answer.aF.root,↑c2.answer.aF.readOnly]) 60::lU mb zs::dX mb s::L):=SH.wi ⟨JU,KA,KK,KH⟩ h
 exact⟨1048576,⟨rfl,rfl,rfl,rfl,rfl,rfl,rfl,trivial⟩,(h.fr (.c r2 (.c r0 (.c r1 (.c r1 (.c r0 .n)))))),(by omega)⟩
 have aFs:=dR mE
 refine gF rfl rfl mE<|gF rfl rfl mE<|gF rfl rfl mE<|st (pF rfl mE rfl)<|xe<|nx<|cF rfl<|sk<|nx<|?_
 have h:=h.fr (.c r0 (.c r0 (.c r0 .n)))
 have h:SH B w (sL b4 mb Uc ts zs::bl cb ([↑c2.kind,↑c2.aF.root,↑c2.aF.readOnly,↑c2.a,↑c2.b,↑c2.n,↑c2.index,.int .u64 (c2.hash:Int),.int .u64 (c2.aI:Int),↑c2.key,.int .u64 (c2.value:Int),.int .u64 (c2.expect:Int),↑c2.bF,↑c2.only,↑c2.walk.started,.slice none 0 0,.slice none 0 0,↑c2.answer.err,↑c2.answer.found,.int .u64 (c2.answer.value:Int),↑c2.answer.key,↑c2.answer.count,↑c2.answer.ref,↑c2.answer.aF.root,↑c2.answer.aF.readOnly]) 60::lU mb zs::dX mb s::nO Ej l::L):=SH.wi ⟨JU,KA,KK,KH⟩ h
 exact⟨1048576,⟨rfl,rfl,rfl,rfl,rfl,rfl,rfl,trivial⟩,(h.fr (.c r1 (.c r0 (.c r0 (.c r0 (.c r0 .n)))))),(by omega)⟩
 rintro e w ⟨n,hE,h,hn⟩
 refine C.sub hE ?_
 clear hE e
 refine sq<|rg<|st (mv rfl)<|st (kB rfl (eH (h.b a0)) wV)<|st (mv rfl)<|cl (ca eF rfl) ((I5 b4 mb Uc (2*i) n s ts zs g c2 (h.fr (.c r1 (.c r1 (.c r1 .n)))) hW (by omega) Nv.1 Nv.2.1 (by omega) hn Nv.2.2.2).mono ?_)
 rintro _ w ⟨g1,s1,O4,TU,hW1,rfl,h⟩
 have aTx:=hW1.xT
 refine⟨_,rfl,?_⟩
 refine xe<|nx<|sq<|?_
 have h:=h.fr (.c r0 .n)
 obtain⟨⟨JV,JT,UA,JZ⟩,h⟩:=h.wo
 have h:SH B w (bl b4 ([↑mb,.int .u64 (Uc:Int),.slice JV O4.length JT,.slice UA TU.length JZ]) 32::aV 35 2 (.slice JV O4.length JT) O4.length (O4.flatMap dV)::aV 81 1 (.slice UA TU.length JZ) TU.length (TU.flatMap Sf)::lU mb TU::dX mb s1::bl cb ([↑c2.kind,↑c2.aF.root,↑c2.aF.readOnly,↑c2.a,↑c2.b,↑c2.n,↑c2.index,.int .u64 (c2.hash:Int),.int .u64 (c2.aI:Int),↑c2.key,.int .u64 (c2.value:Int),.int .u64 (c2.expect:Int),↑c2.bF,↑c2.only,↑c2.walk.started,.slice none 0 0,.slice none 0 0,↑c2.answer.err,↑c2.answer.found,.int .u64 (c2.answer.value:Int),↑c2.answer.key,↑c2.answer.count,↑c2.answer.ref,↑c2.answer.aF.root,↑c2.answer.aF.readOnly]) 60::nO Ej l::L):=h
 refine rg<|st (mv rfl)<|st (nc rfl rfl)<|st (fa Hi rfl)<|st (ld AZ rfl (h.c a0 rfl))<|st (ln JA rfl rfl)<|st (bi rfl rfl rfl)<|st (mv rfl)<|?_
 rcases dQ (decide (((TU.length:Int):Int)>0))with tT|tT
 have aKi:=dH tT
 refine gT rfl rfl tT<|st (mv rfl)<|gT rfl rfl tT<|?_
 refine cl (ca eF rfl) ((fZ Ej l 3 (h.fr (.c r6 .n)) (by omega) (by omega)).mono ?_)
 rintro _ w ⟨j50,bDx,rfl,h⟩
 refine⟨_,rfl,?_⟩
 refine gT rfl rfl tT<|st (bi rfl rfl rfl)<|st (pT rfl tT rfl)<|xe<|nx<|?_
 rcases dQ (((j50:Int):Int)==0)with Mr|Mr
 have bBs:=eq_of_beq Mr
 refine ct rfl Mr<|?_
 obtain⟨b54,rfl⟩:=h.fp a3 (by omega)
 refine fD [1,3,5,7,9,11,13,15,17,19,20,23,25,26] (by kernel_rfl) h (.c r1 (.c r2 .n)) λw h=>tk (λW H=>mv rfl)<|tk (λW H=>nc rfl rfl)<|tk (λW H=>fa Hi rfl)<|tk (λW H=>ld AZ rfl (H.c a0 rfl))<|tk (λW H=>mv rfl)<|tk (λW H=>mv rfl)<|tk (λW H=>nc rfl rfl)<|tk (λW H=>fa Hi rfl)<|tk (λW H=>ld AZ rfl (H.c a0 rfl))<|tk (λW H=>ln JA rfl rfl)<|?_
 refine cs (ca eF rfl) ((fZ Ej l (TU.length:Int) (h.fr (.c r0 .n)) (by omega) (by omega)).mono ?_)
 rintro _ w ⟨j55,bBw,rfl,h⟩
 refine⟨_,rfl,h.hs (.c r1 (.c r2 .n)),?_⟩
 refine tk (λW H=>ix (j:=j55) JA aK4 rfl rfl (by first|omega|(show _<10;omega)))<|tk (λW H=>ld aEk rfl ((H.ro a1).x T4 (by decide) (by first|omega|(show _<10;omega)) (0,{}) 0 _ rfl))<|cs (ca eF rfl) ((XZ mb (2*i+1) j55 s1 O4 TU g1 (h.fr (.c r4 (.c r4 .n))) hW1 (by omega) (by omega)).mono ?_)
 rintro _ w ⟨g2,s2,zs2,hW2,hz1,Ud,rfl,h⟩
 refine⟨_,rfl,h.hs (.c r3 (.c r4 .n)),?_⟩
 refine xz<|bn<|nx<|rg<|st (mv rfl)<|st (bw rfl rfl (iR (c:=((i+1:Nat):Int)) (by omega) (by omega) (by omega)))<|st (sg rfl)<|xe<|nx<|?_
 have h:=h.fr (.c r3 (.c r3 (.c r3 .n)))
 have h:SH B w (sL b4 mb Uc O4 zs2::lU mb zs2::dX mb s2::nO Ej l::bl cb ([↑c2.kind,↑c2.aF.root,↑c2.aF.readOnly,↑c2.a,↑c2.b,↑c2.n,↑c2.index,.int .u64 (c2.hash:Int),.int .u64 (c2.aI:Int),↑c2.key,.int .u64 (c2.value:Int),.int .u64 (c2.expect:Int),↑c2.bF,↑c2.only,↑c2.walk.started,.slice none 0 0,.slice none 0 0,↑c2.answer.err,↑c2.answer.found,.int .u64 (c2.answer.value:Int),↑c2.answer.key,↑c2.answer.count,↑c2.answer.ref,↑c2.answer.aF.root,↑c2.answer.aF.readOnly]) 60::L):=SH.wi ⟨JV,JT,some ⟨b54,0,none⟩,JZ⟩ (by unfold FE;dsimp only;rw[hz1,Ud];exact h)
 exact⟨((i+1),g2,s2,O4,zs2),⟨rfl,rfl,rfl,trivial⟩,⟨(h.fr (.c r4 .n)).drop,(hW2.mono (by omega)),by(try dsimp only);omega⟩,by(try dsimp only);omega⟩
 have bBe:=bM Mr
 refine cf rfl Mr<|sk<|bn<|nx<|rg<|st (mv rfl)<|st (bw rfl rfl (iR (c:=((i+1:Nat):Int)) (by omega) (by omega) (by omega)))<|st (sg rfl)<|xe<|nx<|?_
 have h:=h.fr (.c r1 (.c r1 (.c r1 .n)))
 have h:SH B w (sL b4 mb Uc O4 TU::nO Ej l::lU mb TU::dX mb s1::bl cb ([↑c2.kind,↑c2.aF.root,↑c2.aF.readOnly,↑c2.a,↑c2.b,↑c2.n,↑c2.index,.int .u64 (c2.hash:Int),.int .u64 (c2.aI:Int),↑c2.key,.int .u64 (c2.value:Int),.int .u64 (c2.expect:Int),↑c2.bF,↑c2.only,↑c2.walk.started,.slice none 0 0,.slice none 0 0,↑c2.answer.err,↑c2.answer.found,.int .u64 (c2.answer.value:Int),↑c2.answer.key,↑c2.answer.count,↑c2.answer.ref,↑c2.answer.aF.root,↑c2.answer.aF.readOnly]) 60::L):=SH.wi ⟨JV,JT,UA,JZ⟩ h
 exact⟨((i+1),g1,s1,O4,TU),⟨rfl,rfl,rfl,trivial⟩,⟨((h.fr (.c r4 .n)).drop.fr (.c r0 (.c r1 (.c r1 (.c r0 .n))))),(hW1.mono (by omega)),by(try dsimp only);omega⟩,by(try dsimp only);omega⟩
 have aZx:=dR tT
 refine gF rfl rfl tT<|gF rfl rfl tT<|gF rfl rfl tT<|st (pF rfl tT rfl)<|xe<|nx<|cF rfl<|sk<|bn<|nx<|rg<|st (mv rfl)<|st (bw rfl rfl (iR (c:=((i+1:Nat):Int)) (by omega) (by omega) (by omega)))<|st (sg rfl)<|xe<|nx<|?_
 have h:=h.fr (.c r0 (.c r0 (.c r0 .n)))
 have h:SH B w (sL b4 mb Uc O4 TU::lU mb TU::dX mb s1::bl cb ([↑c2.kind,↑c2.aF.root,↑c2.aF.readOnly,↑c2.a,↑c2.b,↑c2.n,↑c2.index,.int .u64 (c2.hash:Int),.int .u64 (c2.aI:Int),↑c2.key,.int .u64 (c2.value:Int),.int .u64 (c2.expect:Int),↑c2.bF,↑c2.only,↑c2.walk.started,.slice none 0 0,.slice none 0 0,↑c2.answer.err,↑c2.answer.found,.int .u64 (c2.answer.value:Int),↑c2.answer.key,↑c2.answer.count,↑c2.answer.ref,↑c2.answer.aF.root,↑c2.answer.aF.readOnly]) 60::nO Ej l::L):=SH.wi ⟨JV,JT,UA,JZ⟩ h
 exact⟨((i+1),g1,s1,O4,TU),⟨rfl,rfl,rfl,trivial⟩,⟨(h.fr (.c r3 .n)).drop,(hW1.mono (by omega)),by(try dsimp only);omega⟩,by(try dsimp only);omega⟩
 refine cf rfl wE<|xt<|tx<|tx<|be<|nx<|sq<|rg<|st (mv rfl)<|st (sg rfl)<|xe<|nx<|rt<|?_
 refine rr (mC results6 rfl)<|?_
 exact⟨_,_,_,g,s,ts,zs,(by omega),hW.mono (by omega),rfl,h.drop⟩
 have aQe:=dR dJ
 refine gF rfl rfl dJ<|gF rfl rfl dJ<|st (pF rfl dJ rfl)<|xe<|nx<|cF rfl<|xt<|tx<|tx<|be<|nx<|sq<|rg<|st (mv rfl)<|st (sg rfl)<|xe<|nx<|rt<|?_
 refine rr (mC results6 rfl)<|?_
 exact⟨_,_,_,g,s,ts,zs,(by omega),hW.mono (by omega),rfl,(h.fr (.c r3 .n)).drop⟩
end Go.Q9
end
section
namespace Go.Q9
open Go.Proofs.Tryz
open Go.E
theorem aJh:eqf prog 49=some [.i .i64,.b,.i .u64,.s,.i .i64,.i .i64,.i .i64,.b]:=by kernel_rfl
theorem aBr:prog.underlying 36=some (.pointer 102):=by kernel_rfl
end Go.Q9
end
section
namespace Go.Q9
open Go.Proofs.Tryz
open Go.RowKit Go.E
attribute [local irreducible] gA wpS Go.E.X XS C kV lL fin Y U F Ca kU bl rb aV bS ex ce pu sK gK bK zK gG fE cZ gY mA rQ
variable{B w:World}{L:List As}
end Go.Q9
end
