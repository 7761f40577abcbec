/- Parts of a proof: Wq, Ti, Tj, Tk, Ayi, Lo, BmAt. -/
import Derived.Test.YtnhdmcipglnkfaaGreatW35
import Derived.Test.YtnhdmcipglnkfaaGreatW44
set_option linter.unusedVariables false
set_option linter.unusedSimpArgs false
set_option maxRecDepth 100000
set_option maxHeartbeats 4000000
section
namespace Go.Ct
variable{g:Ga}
theorem U9{t:bC}{key:ByteArray}{h:Nat}:∀(d l k:Nat) (b:fV) (g:Ga) (s:St) (i level:Int),b.1=l->l+d=12->d<=k->Tw g s->Tk g t->jV g i b->(pG t key h k i level).Al oS (10*d) d s
 |0,l,k,b,g,s,i,level,hb,hd,hk,hT,ht,hi=>by
  have:=((hT.gw.YW hi).i hi.1).2
  omega
 |d+1,l,0,b,g,s,i,level,hb,hd,hk,hT,ht,hi=>absurd hk (by omega)
 |d+1,l,k+1,b,g,s,i,level,hb,hd,hk,hT,ht,hi=>by
  show (mM t i _).Al oS (10*d+10) (d+1) s
  refine Au hT ht hi λg1 s1 m h1 hT1 hz hm _ _=>oW (hT1.PI.node m) ?_
  have hn:=hT1.gw.ofM hz.m
  have pr:∀x:Node,(vO key x).Al oS (10*d) d s1:=λx=>by
   unfold vO;cases bR x.key key<;>exact trivial
  rcases sH hz.m with h3|h5|h6
  ·rw[h3]
   cases hl:(aB (g1.node m) (slice h level)).2 with
   |false=>exact trivial
   |true=>
    refine oW (hT1.PI.node _) ?_
    rcases(hn.c h3).2.2 _ hl with hI|hS
    ·rw[hI.1]
     exact U9 d (l+1) k (dO b (slice h level)) g1 s1 _ _ (by show b.1+1=l+1;omega) (by omega) (by omega) hT1 (ht.ge h1) hI
    ·rw[hS.1];exact pr _
  ·rw[h5];exact pr _
  ·rw[h6]
   show (bif (bB (g1.node m).aF key).2 then _ else _:I Result).Al oS _ _ s1
   cases (bB (g1.node m).aF key).2<;>exact trivial
theorem Y5{c:Call}{s:St}(hT:Tw g s)(hc:kZ g c)(h12:c.kind<=12):(mS c FU).Al oS 1775 1000 s:=by
 have h7:=hc.lo
 unfold mS
 split
 ·unfold FN
  cases !bU c.key with
  |true=>exact trivial
  |false=>
   refine Al.mono (AZ (n:=120) (j:=12) (k:=λr=>pG c.aE c.key (aH c.key c.aI) FU r 0) hT hc.aE λg1 s1 r h1 hT1 hr _=>?_) (by omega) (by omega)
   exact U9 12 0 FU (0,0) g1 s1 r 0 rfl rfl (by decide) hT1 (hc.aE.ge h1) hr
 ·split
  ·rename_i h8;exact Al.mono (aAo (hc.ro (.inl h8)) hT hc.aE) (by omega) (by omega)
  ·split
   ·rename_i h9;exact Al.mono (P2 (hc.ro (.inr (.inl h9))) hT hc.aE) (by omega) (by omega)
   ·have eF:FU=99999999+1:=rfl
    split
    ·rw[eF];exact Al.mono (V1 false 99999999 hT hc.aE) (by omega) (by omega)
    ·split
     ·rw[eF];exact Al.mono (V1 true 99999999 hT hc.aE) (by omega) (by omega)
     ·rw[if_neg (by omega),eF]
      exact Al.mono (s8 99999999 hT hc.aE (hc.ro (.inr (.inr (by omega))))) (by omega) (by omega)
structure GI(g:Ga)(S0 i:Nat)(x:X):Prop where
 ex:∃g' u u',Ge g g'/\GW g'/\nZ g' x.s/\eK x.s/\Er g' x.e u u'/\EP g' u/\∃n j,u.Al oS n j x.s/\x.s.size+2*j+n<=S0+4000/\i+n<=1775
 eG:x.e.eG.length<=i
 rm:S0<=80000000000
theorem GI.start{c:Call}{s:St}(hS:s.size<=80000000000)(h12:c.kind<=12)(hw:GW g)(ht:nZ g s)(hf:eK s)(hc:kZ g c)(hm:c.aI<18446744073709551616)(hk:c.key.size<=9223372036854775807)(hok:Ok 50 (bX (bY c FU) 0 ⟨{call:=c},s⟩)):GI g s.size 0 (bX (bY c FU) 0 ⟨{call:=c},s⟩):=by
 obtain⟨g',u,u',h1,h2,h3,h4,h5,h6,h7,_,_,_,hP⟩:=Er.start hw ht hf hc hm hk hok
 obtain⟨i,hi,hG,_,ha⟩:=Al.head (Y5 ⟨hw,ht⟩ hc h12)
 rw[h1]at hG ha
 have:=hG.size
 exact⟨⟨g',u,u',h2,h3,h4,h5,h6,EP.start hw hc h12 hP,1775,1000-i,ha,by dsimp only at this;omega,by omega⟩,by rw[h7];exact JV _,hS⟩
theorem GI.call{S0 i:Nat}{x:X}(h:GI g S0 i x):x.e.call.aI<18446744073709551616/\x.e.call.key.size<=9223372036854775807/\7<=x.e.call.kind/\(x.e.call.kind<=12\/x.e.call.kind=14):=by
 obtain⟨g',u,u',_,_,_,_,hE,_⟩:=h.ex
 exact⟨hE.aI,hE.key,hE.ok.lo,hE.ok.hi⟩
theorem GI.ready{S0 i:Nat}{x:X}(h:GI g S0 i x)(hs:S0+199*i+120<=room):Ok 60 (cD 1 x)/\(cD 1 x).left<FU:=by
 obtain⟨g',u,u',_,hw,ht,hf,hE,_,n,j,_,h1,_⟩:=h.ex
 exact hE.ready (s:=x.s) ht hf (by have:=h.rm;unfold Ct.room;omega)
theorem GI.step{S0 i:Nat}{x:X}(h:GI g S0 i x)(hd:x.e.done=false)(hi:i<Cx)(hok:Ok 50 (bX (bY x.e.call FU) 1 x)):GI g S0 (i+1) (bX (bY x.e.call FU) 1 x):=by
 obtain⟨g',u,u',k,hw,ht,hf,hE,hS,n,j,ha,hz,hin⟩:=h.ex
 obtain⟨g2,v,v',h0,k2,h2,h3,h4,h5,h6,h7,h8,hP⟩:=hE.step (s:=x.s) hw ht hf hd (fU h.eG hi) hok
 have he:u.ended=none:=by
  have:=hE.same.1
  rw[hd]at this
  cases hu:u.ended with
  |none=>rfl
  |some r=>rw[hu]at this;cases this
 obtain⟨hn,q,s1,b1,b2,b3,b4,b5,b6,b7⟩:=Mr ha hE.sh.rest he
 rw[h0]at b5 b7
 have b8:(bX (bY x.e.call FU) 1 x).s.size<=s1.size+2*q:=b5.size
 have hg:=h.eG
 exact⟨⟨g2,v,v',k.trans k2,h2,h3,h4,h5,hS.step hP,n-1,j-q,b7,by omega,by omega⟩,by rw[show (bX (bY x.e.call FU) 1 x).e.eG.length=x.e.eG.length+1 from h6];omega,h.rm⟩
theorem GI.aAl{S0 i n:Nat}{x:X}(h:GI g S0 i x)(hi:i<=n)(hn:n<=15\/n=1048576):x.s.size<=S0+DP/\(i=n->i<=MM):=by
 obtain⟨g',u,u',k,hw,ht,hf,hE,_,m,j,ha,hz,hin⟩:=h.ex
 exact⟨by unfold DP;omega,λe=>by unfold MM;omega⟩
theorem GI.er{S0 i:Nat}{x:X}(h:GI g S0 i x):∃g' u u',Ge g g'/\GW g'/\nZ g' x.s/\eK x.s/\Er g' x.e u u'/\EP g' u:=by
 obtain⟨g',u,u',a,b,c,d,e,f,_⟩:=h.ex
 exact⟨g',u,u',a,b,c,d,e,f⟩
theorem Lc.m6{k n i b:Nat}{s:St}{ts:List bC}{zs:List (Nat×Ex)}{x:X}(h:Lc k g s ts zs)(hx:GI g s.size i x)(hi:i<=n)(hq:x.e.done=true\/i=n)(hn:n<=15\/n=1048576):∃g',Lc (k+1) g' x.s (Jw ts x.e) (DJ zs b x.e):=by
 obtain⟨g',u,u',hk,hw,ht,hf,hE,hS⟩:=GI.er hx
 obtain⟨f1,f2⟩:=GI.aAl hx hi hn
 have hT:∀t∈ts,Tk g' t:=λt m=>(h.GO t m).ge hk
 have hZ:∀z∈zs,z.2.eG.length<=MM+(k+1)/\∃u u',Er g' z.2 u u'/\EP g' u:=λz m=>by
  obtain⟨h1,v,v',h2,h3⟩:=h.ex z m
  exact⟨by omega,v,v',h2.ge h.gw hk,h3.ge h2.sh h.gw hk hw⟩
 have hs:x.s.size<=DP*(k+1+1):=by have:=h.small;unfold DP at *;omega
 have h5:=h.Qr
 have h0:=h.some
 refine⟨g',hw,ht,hf,?_,?_,?_,?_,?_,?_,hs⟩
 ·unfold Jw
  split
  ·rename_i hc
   intro t m
   rcases List.mem_append.1 m with m|m
   ·exact hT t m
   ·rw[List.mem_singleton.1 m]
    rcases hE.result hc.1 with hr|hr
    ·omega
    ·exact hr
  ·exact hT
 ·unfold Jw
  split
  ·rw[dI,xD h0,<- dI];exact h.first
  ·exact h.first
 ·unfold Jw;split
  ·rw[cO];omega
  ·exact h0
 ·unfold Jw
  split
  ·rename_i hc
   rw[cO,CG];omega
  ·exact h5
 ·unfold DJ
  split
  ·exact hZ
  ·rename_i hd
   intro z m
   rcases List.mem_append.1 m with m|m
   ·exact hZ z m
   ·rw[List.mem_singleton.1 m]
    have hg:=hx.eG
    have:=f2 (hq.resolve_left hd)
    exact⟨by show x.e.eG.length<=_;omega,u,u',hE,hS⟩
 ·have:=h.RZ
  unfold DJ;split
  ·omega
  ·rw[cO,CG];omega
end Go.Ct
end
section
namespace Go.Q9
open Go.Proofs.Tryz
open Go.RowKit Go.E
attribute [local irreducible] gB wpS Go.E.X XS C jU kP fin Y U F Ca jT bl rb aU bV ex ce pu sK gK bK zK gM fO dH gP nE rD
variable{B w:World}{L:List As}
theorem NA(b mb aI k n:Nat)(s:Ct.St)(ts:List Ct.bC)(zs:List (Nat×Ct.Ex))(g:Ct.Ga)(c:Ct.Call)(h:SH B w (nS b mb aI ts zs::eV mb zs::cR mb s::L))(hW:Ct.Lc k g s ts zs)(hk:k<=40)(hc:Ct.kZ g c)(hm:c.aI<18446744073709551616)(hky:c.key.size<=9223372036854775807)(hn:n<=15\/n=1048576)(h12:c.kind<=12):
  Calls prog 32 #[↑b,.agg [↑c.kind,↑c.aE.root,↑c.aE.readOnly,↑c.a,↑c.b,↑c.n,↑c.index,.int .u64 (c.hash:Int),.int .u64 (c.aI:Int),↑c.key,.int .u64 (c.value:Int),.int .u64 (c.expect:Int),↑c.bF,↑c.only,↑c.walk.started,.slice none 0 0,.slice none 0 0,↑c.answer.err,↑c.answer.found,.int .u64 (c.answer.value:Int),↑c.answer.key,↑c.answer.count,↑c.answer.ref,↑c.answer.aE.root,↑c.answer.aE.readOnly].toArray,↑(n:Int)] w λe w'=>∃g' s' ts' zs',Ct.Lc (k+1) g' s' ts' zs'/\e=.returned (.tuple #[])/\SH B w' (nS b mb aI ts' zs'::eV mb zs'::cR mb s'::L):=by
 have hroom:s.size<=Ct.room:=by have:=hW.size;unfold Ct.room;omega
 obtain⟨⟨twp,twc,xwp,xwc⟩,h⟩:=h.wo
 have h:SH B w (bl b ([↑mb,.int .u64 (aI:Int),.slice twp ts.length twc,.slice xwp zs.length xwc]) 32::aU 35 2 (.slice twp ts.length twc) ts.length (ts.flatMap cU)::aU 81 1 (.slice xwp zs.length xwc) zs.length (zs.flatMap Ii)::eV mb zs::cR mb s::L):=h
 refine bZ func32 ntmps32 h λw h=>?_
 refine jX h λb1 w h=>?_
 refine dZ [1,3,5,7,9,10,12] (by kernel_rfl) h (.c r1 (.c r0 .n)) λw h=>go h λw h=>?_
 refine aAi (rW _ _ c _ h.to (Ct.gW hW.fit hroom).1 (Ct.gW hW.fit hroom).2 (by decide) hm hky hc.lo hc.hi) λxb2 w h k=>?_
 have hl:=Ct.GI.start (by have:=hW.size;omega) h12 hW.gw hW.PI hW.fit hc hm hky k
 refine go h λw h=>?_
 refine lp (α:=Ct.X×Nat) (λρ=>(.c 0 ↑b (.c 2 ↑(n:Int) (.c 6 ↑xb2 (.c 7 (.int .i64 (ρ.2:Int)) .n))))) (λρ w=>SH B w (XA xb2 mb ρ.1::bl b1 ([↑c.kind,↑c.aE.root,↑c.aE.readOnly,↑c.a,↑c.b,↑c.n,↑c.index,.int .u64 (c.hash:Int),.int .u64 (c.aI:Int),↑c.key,.int .u64 (c.value:Int),.int .u64 (c.expect:Int),↑c.bF,↑c.only,↑c.walk.started,.slice none 0 0,.slice none 0 0,↑c.answer.err,↑c.answer.found,.int .u64 (c.answer.value:Int),↑c.answer.key,↑c.answer.count,↑c.answer.ref,↑c.answer.aE.root,↑c.answer.aE.readOnly]) 60::bl b ([↑mb,.int .u64 (aI:Int),.slice twp ts.length twc,.slice xwp zs.length xwc]) 32::aU 35 2 (.slice twp ts.length twc) ts.length (ts.flatMap cU)::aU 81 1 (.slice xwp zs.length xwc) zs.length (zs.flatMap Ii)::eV mb zs::L)/\(Ct.GI g s.size ρ.2 ρ.1)/\(ρ.2<=n)) (λρ=>n-ρ.2) ((Ct.bX (Ct.bY c Ct.FU) 0 (⟨{call:=c},s⟩:Ct.X)),0) ⟨rfl,rfl,rfl,rfl,trivial⟩ ⟨h,hl,(dF _)⟩ ?_
 rintro⟨y,i⟩ w ⟨h,hl,hi⟩
 dsimp only at *
 refine go h λw h=>?_
 refine bA (vH _ _ _ h.to) λw h=>?_
 refine qg h (λhd3 w h=>?_) λhd3 w h=>?_
 ·have hd4:y.e.done=false:=(lC _).mp hd3
  refine go h λw h=>?_
  refine qc h (λhd5 w h=>?_) λhd5 w h=>?_
  ·have hg6:=eC hd5
   refine go h λw h=>?_
   have hrd:s.size+199*i+120<=Ct.room:=by have:=hW.size;unfold Ct.room;omega
   refine go h λw h=>?_
   refine SS (Pq _ _ _ _ h.to hd4 (hl.ready hrd).1 (hl.ready hrd).2 (by decide) hl.call.1 hl.call.2.1 hl.call.2.2.1 hl.call.2.2.2) λw h k=>?_
   exact⟨((Ct.bX (Ct.bY y.e.call Ct.FU) 1 y),(i+1)),⟨rfl,rfl,rfl,rfl,trivial⟩,⟨h,(hl.step hd4 (by unfold Ct.Cx;omega) k),by(try dsimp only);omega⟩,by(try dsimp only);omega⟩
  ·have hg7:=cW hd5
   refine go h λw h=>?_
   have h:=h.fr (.c r2 (.c r2 (.c r2 .n)))
   have h:SH B w (nS b mb aI ts zs::XA xb2 mb y::bl b1 ([↑c.kind,↑c.aE.root,↑c.aE.readOnly,↑c.a,↑c.b,↑c.n,↑c.index,.int .u64 (c.hash:Int),.int .u64 (c.aI:Int),↑c.key,.int .u64 (c.value:Int),.int .u64 (c.expect:Int),↑c.bF,↑c.only,↑c.walk.started,.slice none 0 0,.slice none 0 0,↑c.answer.err,↑c.answer.found,.int .u64 (c.answer.value:Int),↑c.answer.key,↑c.answer.count,↑c.answer.ref,↑c.answer.aE.root,↑c.answer.aE.readOnly]) 60::eV mb zs::L):=SH.wi ⟨twp,twc,xwp,xwc⟩ h
   refine go h λw h=>?_
   refine bA (HO b mb xb2 aI ts zs y h.to hW.Qr (by have:=hW.RZ;omega)) λw h=>?_
   refine rn (rK rfl) ?_
   obtain⟨g',hW'⟩:=hW.m6 (b:=xb2) (n:=n) hl hi (by first|exact .inl (by assumption)|exact .inr (by omega)) hn
   exact⟨g',_,_,_,hW',rfl,h.to⟩
 ·have hd8:y.e.done=true:=(bI _).mp hd3
  refine go h λw h=>?_
  have h:=h.fr (.c r2 (.c r2 (.c r2 .n)))
  have h:SH B w (nS b mb aI ts zs::XA xb2 mb y::bl b1 ([↑c.kind,↑c.aE.root,↑c.aE.readOnly,↑c.a,↑c.b,↑c.n,↑c.index,.int .u64 (c.hash:Int),.int .u64 (c.aI:Int),↑c.key,.int .u64 (c.value:Int),.int .u64 (c.expect:Int),↑c.bF,↑c.only,↑c.walk.started,.slice none 0 0,.slice none 0 0,↑c.answer.err,↑c.answer.found,.int .u64 (c.answer.value:Int),↑c.answer.key,↑c.answer.count,↑c.answer.ref,↑c.answer.aE.root,↑c.answer.aE.readOnly]) 60::eV mb zs::L):=SH.wi ⟨twp,twc,xwp,xwc⟩ h
  refine go h λw h=>?_
  refine bA (HO b mb xb2 aI ts zs y h.to hW.Qr (by have:=hW.RZ;omega)) λw h=>?_
  refine rn (rK rfl) ?_
  obtain⟨g',hW'⟩:=hW.m6 (b:=xb2) (n:=n) hl hi (by first|exact .inl (by assumption)|exact .inr (by omega)) hn
  exact⟨g',_,_,_,hW',rfl,h.to⟩
end Go.Q9
end
section
namespace Go.Q9
open Go.Proofs.Tryz
open Go.RowKit Go.E
attribute [local irreducible] gB wpS
theorem QK{b:Nat}{e:Ct.Ex}:∀{zs:List (Nat×Ct.Ex)} {j:Nat} (hj:j<zs.length),zs[j].1=b->(zs.set j (b,e)).flatMap Ii=zs.flatMap Ii
 |z::zs,0,_,hb=>by
  have hb:z.1=b:=hb
  subst hb;rfl
 |z::zs,j+1,h,hb=>by
  have ih:=QK (e:=e) (zs:=zs) (j:=j) (by simpa using h) (by simpa using hb)
  show Ii z++(zs.set j (b,e)).flatMap Ii=Ii z++zs.flatMap Ii
  rw[ih]
variable{B w:World}{L:List As}
theorem HD(mb k j:Nat)(s:Ct.St)(ts:List Ct.bC)(zs:List (Nat×Ct.Ex))(g:Ct.Ga)(h:SH B w (eV mb zs::cR mb s::L))(hW:Ct.Lc k g s ts zs)(hk:k<=40)(hj:j<zs.length):
  Calls prog 33 #[.pointer (some ⟨(zs.getD j (0,{})).1,0,none⟩)] w λe w'=>∃g' s' zs',Ct.Lc (k+1) g' s' ts zs'/\zs'.length=zs.length/\zs'.flatMap Ii=zs.flatMap Ii/\e=.returned (.tuple #[])/\SH B w' (eV mb zs'::cR mb s'::L):=by
 have hg:zs.getD j (0,{})=zs[j]:=by rw[dI,fM hj];rfl
 rw[hg]
 have h:=SH.ET hj h
 have hr:=hW.ready (i:=0) hk (wU hj)
 cases hd:zs[j].2.done with
 |true=>
  refine(XW zs[j].1 mb ⟨zs[j].2,s⟩ h hd).mono ?_
  rintro _ w ⟨rfl,h⟩
  have h:=SH.Ut hj h
  rw[show zs.set j (zs[j].1,zs[j].2)=zs from List.set_getElem_self hj]at h
  exact⟨g,s,zs,hW.mono (by omega),rfl,rfl,rfl,h⟩
 |false=>
  refine(Pq zs[j].1 mb ⟨zs[j].2,s⟩ Ct.FU h hd hr.1 hr.2.1 (by decide) hr.2.2.1 hr.2.2.2.1 hr.2.2.2.2.1 hr.2.2.2.2.2).mono ?_
  rintro _ w ⟨rfl,h,k1⟩
  obtain⟨g',hW'⟩:=hW.step hk hj hd k1
  exact⟨g',_,_,hW',uZ,QK hj rfl,rfl,SH.Ut hj h⟩
end Go.Q9
end
section
namespace Go.Q9
open Go.Proofs.Tryz
open Go.RowKit Go.E
attribute [local irreducible] gB wpS
def uH:List Int:=[8,8,8,9,9,10,11,12,7,8]
theorem FA(j:Nat)(h:j<10):7<=uH.getD j 0/\uH.getD j 0<=12:=(by decide:∀x,x∈uH->7<=x/\x<=12) _ (kH h)
variable{B w:World}{L:List As}
theorem Zz(l:List Int)(p:Option Addr)(c:Nat)(h:SH B w (bV 1 (.slice p l.length c) l.length (l.map (Value.int .i64))::L)):
  Calls prog 6 #[.slice p l.length c] w λe w'=>∃b mb aI g s ts zs,aI<18446744073709551616/\Ct.Lc 36 g s ts zs/\e=.returned (.pointer (some ⟨b,0,none⟩))/\SH B w' (nS b mb aI ts zs::eV mb zs::cR mb s::L):=by
 refine Ea (args:=[_]) func6 rfl ntmps6 rfl ?_
 refine sq<|rg<|st (sg rfl)<|xe<|nx<|sq<|rg<|st (mv rfl)<|cl (ca eF rfl) ((NS l p c (h.fr (.c r0 .n))).mono ?_)
 rintro _ w ⟨tb1,rfl,h⟩
 refine⟨_,rfl,?_⟩
 refine st (sg rfl)<|xe<|nx<|sq<|rg<|cl (ca eF rfl) ((EG (h.fr .n)).mono ?_)
 rintro _ w ⟨mb,rfl,h⟩
 refine⟨_,rfl,?_⟩
 refine st (mv rfl)<|cl (ca eF rfl) ((WS tb1 l (h.fr (.c r1 .n))).mono ?_)
 rintro _ w ⟨GF,hm3,rfl,h⟩
 refine⟨_,rfl,?_⟩
 refine st (bd [↑mb,.int .u64 (GF:Int),.slice none 0 0,.slice none 0 0] N' rfl (by kernel_rfl))<|sf (bx h rfl rfl)<|?_
 rintro _ w ⟨b4,rfl,h⟩
 refine st (sg rfl)<|xe<|nx<|sq<|rg<|st (mv rfl)<|st (mv rfl)<|st (nc rfl rfl)<|st (fa RT rfl)<|st (ld Lv rfl (h.c a0 rfl))<|cl (ca eF rfl) ((Jf mb {} (h.fr (.c r2 .n)) (by decide)).mono ?_)
 rintro _ w ⟨rfl,h⟩
 refine⟨_,rfl,?_⟩
 refine sf (bu (cU (Ct.fS {}).2) h Mu V7 rfl (by kernel_rfl) rfl (by decide) (by decide))<|?_
 rintro _ w ⟨b5,rfl,h⟩
 refine st (nc rfl rfl)<|st (fa xK rfl)<|sf (so h rfl rfl rfl V2 rfl (.s (.s (.r .d))) u2)<|?_
 rintro _ w h
 refine xe<|nx<|sq<|sq<|?_
 have h:=(h.fr (.c r2 (.c r0 (.c r0 (.c r0 .n)))))
 have h:=SH.nil 81 1 (SH.VH (mb:=mb) h)
 have h:=h.fr (.c r2 (.c r2 (.c r0 (.c r0 .n))))
 have h:SH B w (nS b4 mb GF [(Ct.fS {}).2] []::eV mb []::cR mb (Ct.fS {}).1::gQ tb1 l::L):=SH.wi (ts:=[(Ct.fS {}).2]) (zs:=[]) ⟨some ⟨b5,0,none⟩,1,none,0⟩ h
 obtain⟨g0,hW0⟩:=Ct.d5
 refine rg<|st (sg rfl)<|xe<|nx<|bk<|?_
 refine lp (α:=Nat×Ct.Ga×Ct.St×List Ct.bC×List (Nat×Ct.Ex)) (λρ=>(.c 3 ↑tb1 (.c 4 ↑b4 (.c 5 (.int .i64 (ρ.1:Int)) .n)))) (λρ w=>SH B w (nS b4 mb GF ρ.2.2.2.1 ρ.2.2.2.2::eV mb ρ.2.2.2.2::cR mb ρ.2.2.1::gQ tb1 l::L)/\(Ct.Lc (2*ρ.1) ρ.2.1 ρ.2.2.1 ρ.2.2.2.1 ρ.2.2.2.2)/\(ρ.1<=18)) (λρ=>18-ρ.1) (0,g0,(Ct.fS {}).1,[(Ct.fS {}).2],[]) ⟨rfl,rfl,rfl,trivial⟩ ⟨h,hW0,(dF _)⟩ ?_
 rintro⟨i,g,s,ts,zs⟩ w ⟨h,hW,hi⟩
 dsimp only at *
 refine sq<|sq<|rg<|st (mv rfl)<|st (bi rfl rfl rfl)<|st (mv rfl)<|?_
 rcases dA (decide (((i:Int):Int)<18))with hd6|hd6
 have hg7:=eC hd6
 refine gT rfl rfl hd6<|st (mv rfl)<|gT rfl rfl hd6<|cl (ca eF rfl) ((LV tb1 l (h.fr (.c r3 .n))).mono ?_)
 rintro _ w ⟨r8,rfl,h⟩
 refine⟨_,rfl,?_⟩
 refine st (pT rfl hd6 rfl)<|xe<|nx<|?_
 rcases dA r8 with hd9|hd9
 refine ct rfl hd9<|sk<|nx<|sq<|bk<|sq<|rg<|sf (bu [.int .i64 8,.int .i64 8,.int .i64 8,.int .i64 9,.int .i64 9,.int .i64 10,.int .i64 11,.int .i64 12,.int .i64 7,.int .i64 8] h Mx VZ rfl (by kernel_rfl) rfl (by decide) (by decide))<|?_
 rintro _ w ⟨b10,rfl,h⟩
 refine st (mv rfl)<|?_
 have h:SH B w (aU 3 1 (.slice (some ⟨b10,0,none⟩) 10 10) 10 (uH.map (Value.int .i64))::gQ tb1 l::nS b4 mb GF ts zs::eV mb zs::cR mb s::L):=h
 refine cl (ca eF rfl) ((fB tb1 l 10 (h.fr (.c r1 .n)) (by omega) (by omega)).mono ?_)
 rintro _ w ⟨j11,hj12,rfl,h⟩
 refine⟨_,rfl,?_⟩
 refine st (ix (j:=j11) Mx Bf rfl rfl (by first|omega|(show _<10;omega)))<|st (ld jE rfl ((h.ro a1).i (by first|omega|(show _<10;omega))))<|st (sg rfl)<|xe<|nx<|?_
 refine sm (λe w=>∃kd:Int,Sub 100 e (.c 3 ↑tb1 (.c 4 ↑b4 (.c 5 ↑(i:Int) (.c 6 ↑kd (.c 28 ↑tb1 (.c 29 ↑r8 .n))))))/\SH B w (nS b4 mb GF ts zs::eV mb zs::cR mb s::gQ tb1 l::L)/\(7<=kd/\kd<=12)) ?_ ?_
 refine sq<|rg<|st (mv rfl)<|st (bi rfl rfl rfl)<|st (mv rfl)<|?_
 rcases dA ((uH.getD j11 0:Int)==12)with hd13|hd13
 have hg14:=eq_of_beq hd13
 refine gT rfl rfl hd13<|st (mv rfl)<|gT rfl rfl hd13<|?_
 refine cl (ca eF rfl) ((fB tb1 l 3 (h.fr (.c r0 .n)) (by omega) (by omega)).mono ?_)
 rintro _ w ⟨j15,hj16,rfl,h⟩
 refine⟨_,rfl,?_⟩
 refine gT rfl rfl hd13<|st (bi rfl rfl rfl)<|st (pT rfl hd13 rfl)<|xe<|nx<|?_
 rcases dA (decide (((j15:Int):Int)>0))with hd17|hd17
 have hg18:=eC hd17
 refine ct rfl hd17<|rg<|st (sg rfl)<|xe<|nx<|?_
 exact⟨8,⟨rfl,rfl,rfl,rfl,rfl,rfl,trivial⟩,((h.fr (.c r1 .n)).drop.fr (.c r1 (.c r1 (.c r1 (.c r0 .n))))),(by decide)⟩
 have hg19:=cW hd17
 refine cf rfl hd17<|sk<|nx<|?_
 exact⟨uH.getD j11 0,⟨rfl,rfl,rfl,rfl,rfl,rfl,trivial⟩,((h.fr (.c r1 .n)).drop.fr (.c r1 (.c r1 (.c r1 (.c r0 .n))))),(by have:=FA j11 (by omega);have hz:uH.getD j11 0=uH.getD j11 0:=rfl;omega)⟩
 have hg20:=dP hd13
 refine gF rfl rfl hd13<|gF rfl rfl hd13<|gF rfl rfl hd13<|st (pF rfl hd13 rfl)<|xe<|nx<|cF rfl<|sk<|nx<|?_
 exact⟨uH.getD j11 0,⟨rfl,rfl,rfl,rfl,rfl,rfl,trivial⟩,((h.fr (.c r1 .n)).drop.fr (.c r1 (.c r1 (.c r1 (.c r0 .n))))),(by have:=FA j11 (by omega);have hz:uH.getD j11 0=uH.getD j11 0:=rfl;omega)⟩
 rintro e w ⟨kd,hE,h,hkd⟩
 refine C.sub hE ?_
 clear hE e
 refine sq<|rg<|st (mv rfl)<|st (mv rfl)<|st (mv rfl)<|cl (ca eF rfl) ((wN b4 mb tb1 GF ts zs l kd (h.fr (.c r0 (.c r2 .n))) hW.some hW.Qr (by omega) (by omega) hW.first).mono ?_)
 rintro _ w ⟨c,hck,hcm,hcy,hct,hcr,rfl,h⟩
 have hco:=hW.Gz (c:=c) (by omega) (by omega) hct hcr
 have hcm2:c.aI<18446744073709551616:=by omega
 refine⟨_,rfl,?_⟩
 refine sf (al h Hm)<|?_
 rintro _ w ⟨b21,rfl,h⟩
 refine sf (so h rfl rfl rfl Di rfl (.r (.r (.r (.r (.r (.r (.r (.r (.r (.r (.r (.r (.r (.r (.r (.r (.r (.r (.r (.r (.r (.r (.r (.r (.r .d))))))))))))))))))))))))) u0)<|?_
 rintro _ w h
 refine xe<|nx<|?_
 refine sm (λe w=>∃cb:Nat,∃c2:Ct.Call,Sub 100 e (.c 3 ↑tb1 (.c 4 ↑b4 (.c 5 ↑(i:Int) (.c 7 ↑cb (.c 28 ↑tb1 (.c 29 ↑r8 .n))))))/\SH B w (bl cb ([↑c2.kind,↑c2.aE.root,↑c2.aE.readOnly,↑c2.a,↑c2.b,↑c2.n,↑c2.index,.int .u64 (c2.hash:Int),.int .u64 (c2.aI:Int),↑c2.key,.int .u64 (c2.value:Int),.int .u64 (c2.expect:Int),↑c2.bF,↑c2.only,↑c2.walk.started,.slice none 0 0,.slice none 0 0,↑c2.answer.err,↑c2.answer.found,.int .u64 (c2.answer.value:Int),↑c2.answer.key,↑c2.answer.count,↑c2.answer.ref,↑c2.answer.aE.root,↑c2.answer.aE.readOnly]) 60::nS b4 mb GF ts zs::eV mb zs::cR mb s::gQ tb1 l::L)/\(Ct.kZ g c2/\c2.aI<18446744073709551616/\c2.key.size<=8/\c2.kind<=12)) ?_ ?_
 refine sq<|rg<|st (mv rfl)<|st (bi rfl rfl rfl)<|st (mv rfl)<|?_
 rcases dA ((kd:Int)==8)with hd22|hd22
 have hg23:=eq_of_beq hd22
 refine gT rfl rfl hd22<|st (mv rfl)<|gT rfl rfl hd22<|?_
 refine cl (ca eF rfl) ((fB tb1 l 3 (h.fr (.c r2 .n)) (by omega) (by omega)).mono ?_)
 rintro _ w ⟨j24,hj25,rfl,h⟩
 refine⟨_,rfl,?_⟩
 refine gT rfl rfl hd22<|st (bi rfl rfl rfl)<|st (pT rfl hd22 rfl)<|xe<|nx<|?_
 rcases dA (decide (((j24:Int):Int)>0))with hd26|hd26
 have hg27:=eC hd26
 refine ct rfl hd26<|rg<|st (fa j1 rfl)<|sf (so h rfl rfl rfl Bf rfl (.s (.s (.s (.s (.s (.s (.s (.s (.s (.s (.s (.s (.r .d))))))))))))) u1)<|?_
 rintro _ w h
 refine xe<|nx<|?_
 exact⟨b21,({c with bF:=0}:Ct.Call),⟨rfl,rfl,rfl,rfl,rfl,rfl,trivial⟩,(h.fr (.c r1 (.c r1 (.c r1 (.c r1 (.c r0 .n)))))),⟨⟨hco.lo,hco.hi,hco.aE,hco.ro⟩,hcm2,hcy,(show c.kind<=12 by omega)⟩⟩
 have hg28:=cW hd26
 refine cf rfl hd26<|sk<|nx<|?_
 exact⟨b21,c,⟨rfl,rfl,rfl,rfl,rfl,rfl,trivial⟩,(h.fr (.c r1 (.c r1 (.c r1 (.c r1 (.c r0 .n)))))),⟨⟨hco.lo,hco.hi,hco.aE,hco.ro⟩,hcm2,hcy,(show c.kind<=12 by omega)⟩⟩
 have hg29:=dP hd22
 refine gF rfl rfl hd22<|gF rfl rfl hd22<|gF rfl rfl hd22<|st (pF rfl hd22 rfl)<|xe<|nx<|cF rfl<|sk<|nx<|?_
 exact⟨b21,c,⟨rfl,rfl,rfl,rfl,rfl,rfl,trivial⟩,(h.fr (.c r0 (.c r0 (.c r1 (.c r1 (.c r0 .n)))))),⟨⟨hco.lo,hco.hi,hco.aE,hco.ro⟩,hcm2,hcy,(show c.kind<=12 by omega)⟩⟩
 rintro e w ⟨cb,c2,hE,h,hc2⟩
 refine C.sub hE ?_
 clear hE e
 refine sq<|rg<|st (sg rfl)<|xe<|nx<|?_
 refine sm (λe w=>∃n:Nat,Sub 100 e (.c 3 ↑tb1 (.c 4 ↑b4 (.c 5 ↑(i:Int) (.c 7 ↑cb (.c 8 ↑(n:Int) (.c 28 ↑tb1 (.c 29 ↑r8 .n)))))))/\SH B w (bl cb ([↑c2.kind,↑c2.aE.root,↑c2.aE.readOnly,↑c2.a,↑c2.b,↑c2.n,↑c2.index,.int .u64 (c2.hash:Int),.int .u64 (c2.aI:Int),↑c2.key,.int .u64 (c2.value:Int),.int .u64 (c2.expect:Int),↑c2.bF,↑c2.only,↑c2.walk.started,.slice none 0 0,.slice none 0 0,↑c2.answer.err,↑c2.answer.found,.int .u64 (c2.answer.value:Int),↑c2.answer.key,↑c2.answer.count,↑c2.answer.ref,↑c2.answer.aE.root,↑c2.answer.aE.readOnly]) 60::nS b4 mb GF ts zs::eV mb zs::cR mb s::gQ tb1 l::L)/\(n<=15\/n=1048576)) ?_ ?_
 refine sq<|?_
 have h:=h.fr (.c r1 .n)
 obtain⟨⟨twp30,twc31,xwp32,xwc33⟩,h⟩:=h.wo
 have h:SH B w (bl b4 ([↑mb,.int .u64 (GF:Int),.slice twp30 ts.length twc31,.slice xwp32 zs.length xwc33]) 32::aU 35 2 (.slice twp30 ts.length twc31) ts.length (ts.flatMap cU)::aU 81 1 (.slice xwp32 zs.length xwc33) zs.length (zs.flatMap Ii)::bl cb ([↑c2.kind,↑c2.aE.root,↑c2.aE.readOnly,↑c2.a,↑c2.b,↑c2.n,↑c2.index,.int .u64 (c2.hash:Int),.int .u64 (c2.aI:Int),↑c2.key,.int .u64 (c2.value:Int),.int .u64 (c2.expect:Int),↑c2.bF,↑c2.only,↑c2.walk.started,.slice none 0 0,.slice none 0 0,↑c2.answer.err,↑c2.answer.found,.int .u64 (c2.answer.value:Int),↑c2.answer.key,↑c2.answer.count,↑c2.answer.ref,↑c2.answer.aE.root,↑c2.answer.aE.readOnly]) 60::eV mb zs::cR mb s::gQ tb1 l::L):=h
 refine rg<|st (mv rfl)<|st (nc rfl rfl)<|st (fa Af rfl)<|st (ld nC rfl (h.c a0 rfl))<|st (ln Td rfl rfl)<|st (bi rfl rfl rfl)<|st (mv rfl)<|?_
 rcases dA (decide (((zs.length:Int):Int)<3))with hd34|hd34
 have hg35:=eC hd34
 refine gT rfl rfl hd34<|st (mv rfl)<|gT rfl rfl hd34<|?_
 refine cl (ca eF rfl) ((fB tb1 l 4 (h.fr (.c r6 .n)) (by omega) (by omega)).mono ?_)
 rintro _ w ⟨j36,hj37,rfl,h⟩
 refine⟨_,rfl,?_⟩
 refine gT rfl rfl hd34<|st (bi rfl rfl rfl)<|st (pT rfl hd34 rfl)<|xe<|nx<|?_
 rcases dA (((j36:Int):Int)==0)with hd38|hd38
 have hg39:=eq_of_beq hd38
 refine ct rfl hd38<|rg<|st (mv rfl)<|?_
 refine cl (ca eF rfl) ((fB tb1 l 16 (h.fr (.c r0 .n)) (by omega) (by omega)).mono ?_)
 rintro _ w ⟨j40,hj41,rfl,h⟩
 refine⟨_,rfl,?_⟩
 refine st (sg rfl)<|xe<|nx<|?_
 have h:=h.fr (.c r1 (.c r1 (.c r1 .n)))
 have h:SH B w (nS b4 mb GF ts zs::gQ tb1 l::bl cb ([↑c2.kind,↑c2.aE.root,↑c2.aE.readOnly,↑c2.a,↑c2.b,↑c2.n,↑c2.index,.int .u64 (c2.hash:Int),.int .u64 (c2.aI:Int),↑c2.key,.int .u64 (c2.value:Int),.int .u64 (c2.expect:Int),↑c2.bF,↑c2.only,↑c2.walk.started,.slice none 0 0,.slice none 0 0,↑c2.answer.err,↑c2.answer.found,.int .u64 (c2.answer.value:Int),↑c2.answer.key,↑c2.answer.count,↑c2.answer.ref,↑c2.answer.aE.root,↑c2.answer.aE.readOnly]) 60::eV mb zs::cR mb s::L):=SH.wi ⟨twp30,twc31,xwp32,xwc33⟩ h
 exact⟨j40,⟨rfl,rfl,rfl,rfl,rfl,rfl,rfl,trivial⟩,(h.fr (.c r2 (.c r0 (.c r1 (.c r1 (.c r0 .n)))))),(by omega)⟩
 have hg42:=dP hd38
 refine cf rfl hd38<|sk<|nx<|?_
 have h:=h.fr (.c r1 (.c r1 (.c r1 .n)))
 have h:SH B w (nS b4 mb GF ts zs::gQ tb1 l::bl cb ([↑c2.kind,↑c2.aE.root,↑c2.aE.readOnly,↑c2.a,↑c2.b,↑c2.n,↑c2.index,.int .u64 (c2.hash:Int),.int .u64 (c2.aI:Int),↑c2.key,.int .u64 (c2.value:Int),.int .u64 (c2.expect:Int),↑c2.bF,↑c2.only,↑c2.walk.started,.slice none 0 0,.slice none 0 0,↑c2.answer.err,↑c2.answer.found,.int .u64 (c2.answer.value:Int),↑c2.answer.key,↑c2.answer.count,↑c2.answer.ref,↑c2.answer.aE.root,↑c2.answer.aE.readOnly]) 60::eV mb zs::cR mb s::L):=SH.wi ⟨twp30,twc31,xwp32,xwc33⟩ h
 exact⟨1048576,⟨rfl,rfl,rfl,rfl,rfl,rfl,rfl,trivial⟩,(h.fr (.c r2 (.c r0 (.c r1 (.c r1 (.c r0 .n)))))),(by omega)⟩
 have hg43:=cW hd34
 refine gF rfl rfl hd34<|gF rfl rfl hd34<|gF rfl rfl hd34<|st (pF rfl hd34 rfl)<|xe<|nx<|cF rfl<|sk<|nx<|?_
 have h:=h.fr (.c r0 (.c r0 (.c r0 .n)))
 have h:SH B w (nS b4 mb GF ts zs::bl cb ([↑c2.kind,↑c2.aE.root,↑c2.aE.readOnly,↑c2.a,↑c2.b,↑c2.n,↑c2.index,.int .u64 (c2.hash:Int),.int .u64 (c2.aI:Int),↑c2.key,.int .u64 (c2.value:Int),.int .u64 (c2.expect:Int),↑c2.bF,↑c2.only,↑c2.walk.started,.slice none 0 0,.slice none 0 0,↑c2.answer.err,↑c2.answer.found,.int .u64 (c2.answer.value:Int),↑c2.answer.key,↑c2.answer.count,↑c2.answer.ref,↑c2.answer.aE.root,↑c2.answer.aE.readOnly]) 60::eV mb zs::cR mb s::gQ tb1 l::L):=SH.wi ⟨twp30,twc31,xwp32,xwc33⟩ h
 exact⟨1048576,⟨rfl,rfl,rfl,rfl,rfl,rfl,rfl,trivial⟩,(h.fr (.c r1 (.c r0 (.c r0 (.c r0 (.c r0 .n)))))),(by omega)⟩
 rintro e w ⟨n,hE,h,hn⟩
 refine C.sub hE ?_
 clear hE e
 refine sq<|rg<|st (mv rfl)<|st (gJ rfl (dK (h.b a0)) Aj)<|st (mv rfl)<|cl (ca eF rfl) ((NA b4 mb GF (2*i) n s ts zs g c2 (h.fr (.c r1 (.c r1 (.c r1 .n)))) hW (by omega) hc2.1 hc2.2.1 (by omega) hn hc2.2.2.2).mono ?_)
 rintro _ w ⟨g1,s1,ts1,zs1,hW1,rfl,h⟩
 have hfew1:=hW1.RZ
 refine⟨_,rfl,?_⟩
 refine xe<|nx<|sq<|?_
 have h:=h.fr (.c r0 .n)
 obtain⟨⟨twp44,twc45,xwp46,xwc47⟩,h⟩:=h.wo
 have h:SH B w (bl b4 ([↑mb,.int .u64 (GF:Int),.slice twp44 ts1.length twc45,.slice xwp46 zs1.length xwc47]) 32::aU 35 2 (.slice twp44 ts1.length twc45) ts1.length (ts1.flatMap cU)::aU 81 1 (.slice xwp46 zs1.length xwc47) zs1.length (zs1.flatMap Ii)::eV mb zs1::cR mb s1::bl cb ([↑c2.kind,↑c2.aE.root,↑c2.aE.readOnly,↑c2.a,↑c2.b,↑c2.n,↑c2.index,.int .u64 (c2.hash:Int),.int .u64 (c2.aI:Int),↑c2.key,.int .u64 (c2.value:Int),.int .u64 (c2.expect:Int),↑c2.bF,↑c2.only,↑c2.walk.started,.slice none 0 0,.slice none 0 0,↑c2.answer.err,↑c2.answer.found,.int .u64 (c2.answer.value:Int),↑c2.answer.key,↑c2.answer.count,↑c2.answer.ref,↑c2.answer.aE.root,↑c2.answer.aE.readOnly]) 60::gQ tb1 l::L):=h
 refine rg<|st (mv rfl)<|st (nc rfl rfl)<|st (fa Af rfl)<|st (ld nC rfl (h.c a0 rfl))<|st (ln Td rfl rfl)<|st (bi rfl rfl rfl)<|st (mv rfl)<|?_
 rcases dA (decide (((zs1.length:Int):Int)>0))with hd48|hd48
 have hg49:=eC hd48
 refine gT rfl rfl hd48<|st (mv rfl)<|gT rfl rfl hd48<|?_
 refine cl (ca eF rfl) ((fB tb1 l 3 (h.fr (.c r6 .n)) (by omega) (by omega)).mono ?_)
 rintro _ w ⟨j50,hj51,rfl,h⟩
 refine⟨_,rfl,?_⟩
 refine gT rfl rfl hd48<|st (bi rfl rfl rfl)<|st (pT rfl hd48 rfl)<|xe<|nx<|?_
 rcases dA (((j50:Int):Int)==0)with hd52|hd52
 have hg53:=eq_of_beq hd52
 refine ct rfl hd52<|?_
 obtain⟨b54,rfl⟩:=h.fp a3 (by omega)
 refine dZ [1,3,5,7,9,11,13,15,17,19,20,23,25,26] (by kernel_rfl) h (.c r1 (.c r2 .n)) λw h=>tk (λW H=>mv rfl)<|tk (λW H=>nc rfl rfl)<|tk (λW H=>fa Af rfl)<|tk (λW H=>ld nC rfl (H.c a0 rfl))<|tk (λW H=>mv rfl)<|tk (λW H=>mv rfl)<|tk (λW H=>nc rfl rfl)<|tk (λW H=>fa Af rfl)<|tk (λW H=>ld nC rfl (H.c a0 rfl))<|tk (λW H=>ln Td rfl rfl)<|?_
 refine cs (ca eF rfl) ((fB tb1 l (zs1.length:Int) (h.fr (.c r0 .n)) (by omega) (by omega)).mono ?_)
 rintro _ w ⟨j55,hj56,rfl,h⟩
 refine⟨_,rfl,h.hs (.c r1 (.c r2 .n)),?_⟩
 refine tk (λW H=>ix (j:=j55) Td W3 rfl rfl (by first|omega|(show _<10;omega)))<|tk (λW H=>ld D7 rfl ((H.ro a1).x RM (by decide) (by first|omega|(show _<10;omega)) (0,{}) 0 _ rfl))<|cs (ca eF rfl) ((HD mb (2*i+1) j55 s1 ts1 zs1 g1 (h.fr (.c r4 (.c r4 .n))) hW1 (by omega) (by omega)).mono ?_)
 rintro _ w ⟨g2,s2,zs2,hW2,hz1,hz2,rfl,h⟩
 refine⟨_,rfl,h.hs (.c r3 (.c r4 .n)),?_⟩
 refine xz<|bn<|nx<|rg<|st (mv rfl)<|st (bw rfl rfl (gN (c:=((i+1:Nat):Int)) (by omega) (by omega) (by omega)))<|st (sg rfl)<|xe<|nx<|?_
 have h:=h.fr (.c r3 (.c r3 (.c r3 .n)))
 have h:SH B w (nS b4 mb GF ts1 zs2::eV mb zs2::cR mb s2::gQ tb1 l::bl cb ([↑c2.kind,↑c2.aE.root,↑c2.aE.readOnly,↑c2.a,↑c2.b,↑c2.n,↑c2.index,.int .u64 (c2.hash:Int),.int .u64 (c2.aI:Int),↑c2.key,.int .u64 (c2.value:Int),.int .u64 (c2.expect:Int),↑c2.bF,↑c2.only,↑c2.walk.started,.slice none 0 0,.slice none 0 0,↑c2.answer.err,↑c2.answer.found,.int .u64 (c2.answer.value:Int),↑c2.answer.key,↑c2.answer.count,↑c2.answer.ref,↑c2.answer.aE.root,↑c2.answer.aE.readOnly]) 60::L):=SH.wi ⟨twp44,twc45,some ⟨b54,0,none⟩,xwc47⟩ (by unfold Uv;dsimp only;rw[hz1,hz2];exact h)
 exact⟨((i+1),g2,s2,ts1,zs2),⟨rfl,rfl,rfl,trivial⟩,⟨(h.fr (.c r4 .n)).drop,(hW2.mono (by omega)),by(try dsimp only);omega⟩,by(try dsimp only);omega⟩
 have hg57:=dP hd52
 refine cf rfl hd52<|sk<|bn<|nx<|rg<|st (mv rfl)<|st (bw rfl rfl (gN (c:=((i+1:Nat):Int)) (by omega) (by omega) (by omega)))<|st (sg rfl)<|xe<|nx<|?_
 have h:=h.fr (.c r1 (.c r1 (.c r1 .n)))
 have h:SH B w (nS b4 mb GF ts1 zs1::gQ tb1 l::eV mb zs1::cR mb s1::bl cb ([↑c2.kind,↑c2.aE.root,↑c2.aE.readOnly,↑c2.a,↑c2.b,↑c2.n,↑c2.index,.int .u64 (c2.hash:Int),.int .u64 (c2.aI:Int),↑c2.key,.int .u64 (c2.value:Int),.int .u64 (c2.expect:Int),↑c2.bF,↑c2.only,↑c2.walk.started,.slice none 0 0,.slice none 0 0,↑c2.answer.err,↑c2.answer.found,.int .u64 (c2.answer.value:Int),↑c2.answer.key,↑c2.answer.count,↑c2.answer.ref,↑c2.answer.aE.root,↑c2.answer.aE.readOnly]) 60::L):=SH.wi ⟨twp44,twc45,xwp46,xwc47⟩ h
 exact⟨((i+1),g1,s1,ts1,zs1),⟨rfl,rfl,rfl,trivial⟩,⟨((h.fr (.c r4 .n)).drop.fr (.c r0 (.c r1 (.c r1 (.c r0 .n))))),(hW1.mono (by omega)),by(try dsimp only);omega⟩,by(try dsimp only);omega⟩
 have hg58:=cW hd48
 refine gF rfl rfl hd48<|gF rfl rfl hd48<|gF rfl rfl hd48<|st (pF rfl hd48 rfl)<|xe<|nx<|cF rfl<|sk<|bn<|nx<|rg<|st (mv rfl)<|st (bw rfl rfl (gN (c:=((i+1:Nat):Int)) (by omega) (by omega) (by omega)))<|st (sg rfl)<|xe<|nx<|?_
 have h:=h.fr (.c r0 (.c r0 (.c r0 .n)))
 have h:SH B w (nS b4 mb GF ts1 zs1::eV mb zs1::cR mb s1::bl cb ([↑c2.kind,↑c2.aE.root,↑c2.aE.readOnly,↑c2.a,↑c2.b,↑c2.n,↑c2.index,.int .u64 (c2.hash:Int),.int .u64 (c2.aI:Int),↑c2.key,.int .u64 (c2.value:Int),.int .u64 (c2.expect:Int),↑c2.bF,↑c2.only,↑c2.walk.started,.slice none 0 0,.slice none 0 0,↑c2.answer.err,↑c2.answer.found,.int .u64 (c2.answer.value:Int),↑c2.answer.key,↑c2.answer.count,↑c2.answer.ref,↑c2.answer.aE.root,↑c2.answer.aE.readOnly]) 60::gQ tb1 l::L):=SH.wi ⟨twp44,twc45,xwp46,xwc47⟩ h
 exact⟨((i+1),g1,s1,ts1,zs1),⟨rfl,rfl,rfl,trivial⟩,⟨(h.fr (.c r3 .n)).drop,(hW1.mono (by omega)),by(try dsimp only);omega⟩,by(try dsimp only);omega⟩
 refine cf rfl hd9<|xt<|tx<|tx<|be<|nx<|sq<|rg<|st (mv rfl)<|st (sg rfl)<|xe<|nx<|rt<|?_
 refine rr (jP results6 rfl)<|?_
 exact⟨_,_,_,g,s,ts,zs,(by omega),hW.mono (by omega),rfl,h.drop⟩
 have hg59:=cW hd6
 refine gF rfl rfl hd6<|gF rfl rfl hd6<|st (pF rfl hd6 rfl)<|xe<|nx<|cF rfl<|xt<|tx<|tx<|be<|nx<|sq<|rg<|st (mv rfl)<|st (sg rfl)<|xe<|nx<|rt<|?_
 refine rr (jP results6 rfl)<|?_
 exact⟨_,_,_,g,s,ts,zs,(by omega),hW.mono (by omega),rfl,(h.fr (.c r3 .n)).drop⟩
end Go.Q9
end
section
namespace Go.Q9
open Go.Proofs.Tryz
open Go.E
theorem U2:prog.underlying 36=some (.pointer 102):=by kernel_rfl
end Go.Q9
end
section
namespace Go.Q9
open Go.Proofs.Tryz
open Go.RowKit Go.E
attribute [local irreducible] gB wpS Go.E.X XS C jU kP fin Y U F Ca jT bl rb aU bV ex ce pu sK gK bK zK gM fO dH gP nE rD
variable{B w:World}{L:List As}
end Go.Q9
end
section
namespace Go.Q9
open Go.Proofs.Tryz
open Go.RowKit
end Go.Q9
end
