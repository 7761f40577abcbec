/- Parts of a proof: Vq, Azo, Qu, Azp, Qw, Gf, Azq, Wz, Gg, Azr. -/
import Derived.Test.YtnhdmcipglnkfaaGreatW46
set_option linter.unusedVariables false
set_option linter.unusedSimpArgs false
set_option maxRecDepth 100000
set_option maxHeartbeats 4000000
section
namespace Go.E
open Go.RowKit
end Go.E
namespace Go.Q9
open Go.Proofs.Tryz
open Go.RowKit Go.E
structure Plc where
 i:Int:=0
 m:Int:=0
 a:Int:=0
 l:Int:=0
 wp:Option Addr:=none
 wn:Nat:=0
 wc:Nat:=0
def W8(l:List Bool):Nat:=l.count false
def aAj(x:Plc):Ct.LK:=⟨x.i,x.m,x.a,x.l⟩
structure PlQ(s:Ct.St)(d:Nat)(i a:Int)(bs:List Bool)(ok:Bool)(ls:List Plc)(ps:List Ct.bN)(bs':List Bool):Prop where
 fn:Ct.ZF s d i a bs=(ok,ls.map aAj,ps,bs')
 RZ:ls.length+W8 bs'<=W8 bs
 aF:ps.length+1000000*W8 bs'<=1000000*W8 bs
 len:bs'.length=bs.length
theorem PlQ.no{s:Ct.St}{d:Nat}{i a:Int}{bs bs':List Bool}(e:Ct.ZF s d i a bs=(false,[],[],bs'))(h:W8 bs'<=W8 bs)(hl:bs'.length=bs.length):PlQ s d i a bs false [] [] bs':=
 ⟨e,by show 0+W8 bs'<=_;omega,by show 0+_<=_;omega,hl⟩
end Go.Q9
end
section
namespace Go.Q9
open Go.Proofs.Tryz
open Go.E
end Go.Q9
end
section
namespace Go.Q9
open Go.Proofs.Tryz
open Go.RowKit Go.E
attribute [local irreducible] gB wpS
end Go.Q9
end
section
namespace Go.Q9
open Go.Proofs.Tryz
open Go.E
end Go.Q9
end
section
namespace Go.Q9
open Go.Proofs.Tryz
open Go.RowKit Go.E
attribute [local irreducible] gB wpS
end Go.Q9
end
section
namespace Go.Ct
variable{g:Ga}
structure Qwd(g:Ga)(s:St)(ts:List bC):Prop where
 gw:GW g
 PI:nZ g s
 fit:eK s
 GO:∀t∈ts,Tk g t
 first:(ts.getD 0 {}).readOnly=false
 some:0<ts.length
 Qr:ts.length<=5
 small:s.size<=992000
structure U3(g:Ga)(s:St)(ts:List bC)(zs:List (Nat×Ex))(i:Nat):Prop where
 gw:GW g
 PI:nZ g s
 fit:eK s
 GO:∀t∈ts,Tk g t
 first:(ts.getD 0 {}).readOnly=false
 some:0<ts.length
 Qr:ts.length<=5
 RZ:zs.length<=36
 ex:∀k (hk:k<zs.length),∃u u',Er g zs[k].2 u u'/\EP g u
 JN:∀k (hk:k<zs.length),i<=k->zs[k].2.eG.length<=100
 done:∀k (hk:k<zs.length),k<i->zs[k].2.done=true
 small:s.size<=740000+7000*i
theorem Lc.fnw{s:St}{ts:List bC}{zs:List (Nat×Ex)}(h:Lc 36 g s ts zs):U3 g s ts zs 0:=
 ⟨h.gw,h.PI,h.fit,h.GO,h.first,h.some,h.Qr,h.RZ,λk hk=>(h.ex _ (wU hk)).2,λk hk _=>by have:=(h.ex _ (wU hk)).1;unfold MM at this;omega,λk hk h=>absurd h (by omega),by have:=h.small;unfold DP at this;omega⟩
theorem U3.end{s:St}{ts:List bC}{zs:List (Nat×Ex)}{i:Nat}(h:U3 g s ts zs i)(hi:i<=zs.length):Qwd g s ts:=
 ⟨h.gw,h.PI,h.fit,h.GO,h.first,h.some,h.Qr,by have:=h.RZ;have:=h.small;omega⟩
structure ZG(g:Ga)(s:St)(ts:List bC)(zs:List (Nat×Ex))(i n:Nat):Prop where
 gw:GW g
 PI:nZ g s
 fit:eK s
 GO:∀t∈ts,Tk g t
 first:(ts.getD 0 {}).readOnly=false
 some:0<ts.length
 Qr:ts.length<=5
 RZ:zs.length<=36
 lt:i<zs.length
 ex:∀k (hk:k<zs.length),k≠i->∃u u',Er g zs[k].2 u u'/\EP g u
 JN:∀k (hk:k<zs.length),i<k->zs[k].2.eG.length<=100
 done:∀k (hk:k<zs.length),k<i->zs[k].2.done=true
 run:∃u u' j,Er g zs[i].2 u u'/\EP g u/\u.Al oS n j s/\s.size+2*j+n<=747000+7000*i/\zs[i].2.eG.length+n<=3900
theorem U3.run{s:St}{ts:List bC}{zs:List (Nat×Ex)}{i:Nat}(h:U3 g s ts zs i)(hi:i<zs.length):ZG g s ts zs i 3775:=by
 obtain⟨u,u',hE,hS⟩:=h.ex i hi
 have hy:=h.JN i hi (JV i)
 have hs:=h.small
 exact⟨h.gw,h.PI,h.fit,h.GO,h.first,h.some,h.Qr,h.RZ,hi,λk hk _=>h.ex k hk,λk hk hik=>h.JN k hk (by omega),h.done,u,u',1500,hE,hS,Hd.al hS ⟨h.gw,h.PI⟩ hE.sh.ls,by omega,by omega⟩
theorem ZG.fin{s:St}{ts:List bC}{zs:List (Nat×Ex)}{i n:Nat}(h:ZG g s ts zs i n)(hd:(zs[i]'h.lt).2.done=true):U3 g s ts zs (i+1):=by
 obtain⟨u,u',j,hE,hS,ha,hs,hg⟩:=h.run
 refine⟨h.gw,h.PI,h.fit,h.GO,h.first,h.some,h.Qr,h.RZ,λk hk=>?_,λk hk hik=>h.JN k hk (by omega),λk hk hik=>?_,by omega⟩
 ·by_cases hki:k=i
  ·subst hki;exact⟨u,u',hE,hS⟩
  ·exact h.ex k hk hki
 ·rcases yM k i with hki|hki
  ·exact h.done k hk hki
  ·obtain rfl:k=i:=by omega
   exact hd
theorem ZG.ready{s:St}{ts:List bC}{zs:List (Nat×Ex)}{i n:Nat}(h:ZG g s ts zs i n):Ok 60 (cD 1 ⟨(zs[i]'h.lt).2,s⟩)/\(cD 1 ⟨(zs[i]'h.lt).2,s⟩).left<FU/\(zs[i]'h.lt).2.call.aI<18446744073709551616/\(zs[i]'h.lt).2.call.key.size<=9223372036854775807/\7<=(zs[i]'h.lt).2.call.kind/\((zs[i]'h.lt).2.call.kind<=12\/(zs[i]'h.lt).2.call.kind=14):=by
 obtain⟨u,u',j,hE,hS,ha,hs,hg⟩:=h.run
 have hf:=h.RZ
 have hl:=h.lt
 obtain⟨a,b⟩:=hE.ready h.PI h.fit (by unfold room;omega)
 exact⟨a,b,hE.aI,hE.key,hE.ok.lo,hE.ok.hi⟩
theorem ZG.step{s:St}{ts:List bC}{zs:List (Nat×Ex)}{i n:Nat}(h:ZG g s ts zs i n)(hd:(zs[i]'h.lt).2.done=false)(hok:Ok 50 (bX (bY (zs[i]'h.lt).2.call FU) 1 ⟨(zs[i]'h.lt).2,s⟩)):
  0<n/\∃g',ZG g' (bX (bY (zs[i]'h.lt).2.call FU) 1 ⟨(zs[i]'h.lt).2,s⟩).s ts (zs.set i ((zs[i]'h.lt).1,(bX (bY (zs[i]'h.lt).2.call FU) 1 ⟨(zs[i]'h.lt).2,s⟩).e)) i (n-1):=by
 have hl:=h.lt
 obtain⟨u,u',j,hE,hS,ha,hs,hg⟩:=h.run
 obtain⟨g2,v,v',h0,k2,h2,h3,h4,h5,h6,h7,h8,hP⟩:=hE.step h.gw h.PI h.fit hd (by unfold Cx;omega) hok
 have he:u.ended=none:=by
  have:=hE.same.1
  rw[hd]at this
  cases hu:u.ended with
  |none=>rfl
  |some r=>rw[hu]at this;cases this
 obtain⟨hn,q,s1,b1,b2,b3,b4,b5,b6,b7⟩:=Mr ha hE.sh.rest he
 rw[h0]at b5 b7
 have b8:(bX (bY zs[i].2.call FU) 1 ⟨zs[i].2,s⟩).s.size<=s1.size+2*q:=b5.size
 refine⟨hn,g2,h2,h3,h4,λt m=>(h.GO t m).ge k2,h.first,h.some,h.Qr,by rw[uZ];exact h.RZ,by rw[uZ];exact hl,?_,?_,?_,?_⟩
 ·intro k hk hik
  rw[uZ]at hk
  rw[List.getElem_set_ne (by omega)]
  obtain⟨w,w',hW,hS'⟩:=h.ex k hk hik
  exact⟨w,w',hW.ge h.gw k2,hS'.ge hW.sh h.gw k2 h2⟩
 ·intro k hk hik
  rw[uZ]at hk
  rw[List.getElem_set_ne (by omega)]
  exact h.JN k hk hik
 ·intro k hk hik
  rw[uZ]at hk
  rw[List.getElem_set_ne (by omega)]
  exact h.done k hk hik
 ·refine⟨v,v',j-q,?_,hS.step hP,b7,by omega,?_⟩
  ·rw[List.getElem_set_self];exact h5
  ·rw[List.getElem_set_self]
   show (bX (bY zs[i].2.call FU) 1 ⟨zs[i].2,s⟩).e.eG.length+_<=_
   omega
end Go.Ct
end
section
namespace Go.Q9
open Go.Proofs.Tryz
open Go.E
end Go.Q9
end
section
namespace Go.Q9
open Go.Proofs.Tryz
open Go.RowKit Go.E
attribute [local irreducible] gB wpS
theorem JW{zs:List (Nat×Ct.Ex)}{i:Nat}(hi:i<zs.length):zs.getD i (0,{})=zs[i]:=by rw[dI,fM hi];rfl
theorem X5{zs:List (Nat×Ct.Ex)}{i:Nat}{e:Ct.Ex}(hi:i<zs.length)(k:Nat):((zs.set i (zs[i].1,e)).getD k (0,{})).1=(zs.getD k (0,{})).1:=by
 by_cases h:i=k
 ·subst h
  rw[JW (by rw[uZ];exact hi),JW hi,List.getElem_set_self]
 ·rw[dI,AD h,<- dI]
theorem T0{g:Ct.Ga}{s:Ct.St}{ts:List Ct.bC}{zs:List (Nat×Ct.Ex)}{i n:Nat}(h:Ct.ZG g s ts zs i n)(hd:(zs.getD i (0,{})).2.done=true):Ct.U3 g s ts zs (i+1):=h.fin (by rw[<- JW h.lt];exact hd)
variable{B w:World}{L:List As}
theorem XC(mb i xb:Nat)(s:Ct.St)(zs:List (Nat×Ct.Ex))(h:SH B w (eV mb zs::cR mb s::L))(hi:i<zs.length)(hx:(zs.getD i (0,{})).1=xb):
  Calls prog 34 #[↑xb] w λe w'=>e=.returned (.bool (zs.getD i (0,{})).2.done)/\SH B w' (eV mb zs::cR mb s::L):=by
 subst hx
 rw[JW hi]
 refine(vH zs[i].1 mb ⟨zs[i].2,s⟩ (SH.ET hi h)).mono ?_
 rintro _ w ⟨rfl,h⟩
 have h:=SH.Ut hi h
 rw[show zs.set i (zs[i].1,zs[i].2)=zs from List.set_getElem_self hi]at h
 exact⟨rfl,h⟩
theorem WD(mb i n xb:Nat)(s:Ct.St)(ts:List Ct.bC)(zs:List (Nat×Ct.Ex))(g:Ct.Ga)(h:SH B w (eV mb zs::cR mb s::L))(hR:Ct.ZG g s ts zs i n)(hd:(zs.getD i (0,{})).2.done=false)(hx:(zs.getD i (0,{})).1=xb):
  Calls prog 33 #[↑xb] w λe w'=>∃g' s' zs',0<n/\Ct.ZG g' s' ts zs' i (n-1)/\zs'.length=zs.length/\(∀k,(zs'.getD k (0,{})).1=(zs.getD k (0,{})).1)/\e=.returned (.tuple #[])/\SH B w' (eV mb zs'::cR mb s'::L):=by
 have hi:=hR.lt
 subst hx
 rw[JW hi]at hd ⊢
 have hr:=hR.ready
 refine(Pq zs[i].1 mb ⟨zs[i].2,s⟩ Ct.FU (SH.ET hi h) hd hr.1 hr.2.1 (by decide) hr.2.2.1 hr.2.2.2.1 hr.2.2.2.2.1 hr.2.2.2.2.2).mono ?_
 rintro _ w ⟨rfl,h,k1⟩
 obtain⟨hn,g',hR'⟩:=hR.step hd k1
 exact⟨g',_,_,hn,hR',uZ,X5 hi,rfl,SH.Ut hi h⟩
theorem JK(b mb aI:Nat)(s:Ct.St)(ts:List Ct.bC)(zs:List (Nat×Ct.Ex))(g:Ct.Ga)(h:SH B w (nS b mb aI ts zs::eV mb zs::cR mb s::L))(hW:Ct.Lc 36 g s ts zs):
  Calls prog 7 #[↑b] w λe w'=>∃g' s',Ct.Qwd g' s' ts/\e=.returned (.tuple #[])/\SH B w' (nS b mb aI ts []::cR mb s'::L):=by
 have hfew:=hW.RZ
 obtain⟨⟨twp,twc,xwp,xwc⟩,h⟩:=h.wo
 have h:SH B w (bl b ([↑mb,.int .u64 (aI:Int),.slice twp ts.length twc,.slice xwp zs.length xwc]) 32::aU 35 2 (.slice twp ts.length twc) ts.length (ts.flatMap cU)::aU 81 1 (.slice xwp zs.length xwc) zs.length (zs.flatMap Ii)::eV mb zs::cR mb s::L):=h
 refine Ea (args:=[_]) func7 rfl ntmps7 rfl ?_
 refine sq<|sq<|rg<|st (mv rfl)<|st (nc rfl rfl)<|st (fa Af rfl)<|st (ld nC rfl (h.c a0 rfl))<|st (ln Td rfl rfl)<|st (mv rfl)<|xe<|nx<|bk<|?_
 refine lp (α:=Nat×Ct.Ga×Ct.St×List (Nat×Ct.Ex)) (λρ=>(.c 0 ↑b (.c 7 (.slice xwp zs.length xwc) (.c 8 ↑(zs.length:Int) (.c 9 (.int .i64 (ρ.1:Int)) .n))))) (λρ w=>SH B w (eV mb ρ.2.2.2::cR mb ρ.2.2.1::bl b ([↑mb,.int .u64 (aI:Int),.slice twp ts.length twc,.slice xwp zs.length xwc]) 32::aU 35 2 (.slice twp ts.length twc) ts.length (ts.flatMap cU)::aU 81 1 (.slice xwp zs.length xwc) zs.length (zs.flatMap Ii)::L)/\(Ct.U3 ρ.2.1 ρ.2.2.1 ts ρ.2.2.2 ρ.1)/\(ρ.1<=zs.length)/\(ρ.2.2.2.length=zs.length)/\(∀k,(ρ.2.2.2.getD k (0,{})).1=(zs.getD k (0,{})).1)) (λρ=>zs.length-ρ.1) (0,g,s,zs) ⟨rfl,rfl,rfl,rfl,trivial⟩ ⟨(h.fr (.c r3 (.c r3 (.c r0 (.c r0 (.c r0 .n)))))),hW.fnw,(dF _),rfl,(λ_=>rfl)⟩ ?_
 rintro⟨i,g1,s1,zs1⟩ w ⟨h,hF,hi,hl,hp⟩
 dsimp only at *
 refine sq<|rg<|st (bi rfl rfl rfl)<|xe<|nx<|sq<|?_
 rcases dA (decide (((i:Int):Int)<(zs.length:Int)))with hd1|hd1
 ·have hg2:=eC hd1
  refine ct rfl hd1<|sk<|nx<|sq<|bk<|sq<|rg<|?_
  obtain⟨b3,rfl⟩:=h.fp a4 (by omega)
  refine st (ix (j:=i) Td W3 rfl rfl (by omega))<|st (ld D7 rfl ((h.ro a4).x RM (by decide) (by omega) (0,{}) 0 _ rfl))<|st (sg rfl)<|xe<|nx<|bk<|?_
  refine lp (α:=Nat×Ct.Ga×Ct.St×List (Nat×Ct.Ex)) (λρ=>(.c 0 ↑b (.c 3 (.pointer (some ⟨(zs.getD i (0,{})).1,0,none⟩)) (.c 7 (.slice (some ⟨b3,0,none⟩) zs.length xwc) (.c 8 ↑(zs.length:Int) (.c 9 ↑(i:Int) .n)))))) (λρ w=>SH B w (eV mb ρ.2.2.2::cR mb ρ.2.2.1::bl b ([↑mb,.int .u64 (aI:Int),.slice twp ts.length twc,.slice (some ⟨b3,0,none⟩) zs.length xwc]) 32::aU 35 2 (.slice twp ts.length twc) ts.length (ts.flatMap cU)::aU 81 1 (.slice (some ⟨b3,0,none⟩) zs.length xwc) zs.length (zs.flatMap Ii)::L)/\(Ct.ZG ρ.2.1 ρ.2.2.1 ts ρ.2.2.2 i ρ.1)/\(ρ.2.2.2.length=zs.length)/\(∀k,(ρ.2.2.2.getD k (0,{})).1=(zs.getD k (0,{})).1)) (λρ=>ρ.1) (3775,g1,s1,zs1) ⟨rfl,rfl,rfl,rfl,rfl,trivial⟩ ⟨h,(hF.run (by omega)),hl,hp⟩ ?_
  rintro⟨n,g2,s2,zs2⟩ w ⟨h,hR,hl2,hp2⟩
  dsimp only at *
  refine sq<|sq<|rg<|st (mv rfl)<|cl (ca eF rfl) ((XC mb i _ s2 zs2 (h.fr (.c r0 (.c r0 .n))) (by omega) (hp2 i)).mono ?_)
  rintro _ w ⟨rfl,h⟩
  refine⟨_,rfl,?_⟩
  refine st (nt rfl)<|xe<|nx<|?_
  rcases dA (!(zs2.getD i (0,{})).2.done)with hd4|hd4
  ·have hd5:(zs2.getD i (0,{})).2.done=false:=(lC _).mp hd4
   refine ct rfl hd4<|sk<|nx<|bk<|rg<|st (mv rfl)<|cl (ca eF rfl) ((WD mb i n _ s2 ts zs2 g2 (h.fr (.c r0 (.c r0 .n))) hR hd5 (hp2 i)).mono ?_)
   rintro _ w ⟨g3,s3,zs3,hn3,hR3,hl3,hp3,rfl,h⟩
   refine⟨_,rfl,?_⟩
   refine xe<|bn<|nx<|?_
   exact⟨((n-1),g3,s3,zs3),⟨rfl,rfl,rfl,rfl,rfl,trivial⟩,⟨h,hR3,(hl3.trans hl2),(λk=>(hp3 k).trans (hp2 k))⟩,(by dsimp only;omega)⟩
  ·have hd6:(zs2.getD i (0,{})).2.done=true:=(bI _).mp hd4
   refine cf rfl hd4<|xt<|tx<|tx<|be<|bn<|nx<|rg<|st (bw rfl rfl (gN (c:=((i+1:Nat):Int)) (by omega) (by omega) (by omega)))<|st (mv rfl)<|xe<|nx<|?_
   exact⟨((i+1),g2,s2,zs2),⟨rfl,rfl,rfl,rfl,trivial⟩,⟨h,(T0 hR hd6),(by omega),hl2,hp2⟩,by(try dsimp only);omega⟩
 ·have hg7:=cW hd1
  refine cf rfl hd1<|xt<|tx<|tx<|be<|nx<|rg<|st (mv rfl)<|st (nc rfl rfl)<|st (fa Af rfl)<|sf (so h rfl rfl rfl Vu rfl (.s (.s (.s (.r .d)))) u2)<|?_
  rintro _ w h
  refine xe<|?_
  refine rn (rK results7)<|?_
  have h:=SH.nil 81 1 (((h.fr (.c r0 (.c r3 .n))).drop.drop.fr (.c r1 (.c r1 (.c r0 .n)))))
  have h:=h.fr (.c r1 (.c r1 (.c r0 .n)))
  exact⟨g1,s1,hF.end (by omega),rfl,SH.wi (zs:=[]) ⟨twp,twc,none,0⟩ h⟩
end Go.Q9
end
section
namespace Go.Ct
variable{g:Ga}
theorem TF{n:Node}{c:Int}(h:n.kind=2):(n.stored c).kind=2/\(n.stored c).gen=n.gen:=by
 unfold Node.stored;rw[if_pos h];exact⟨h,rfl⟩
theorem Mc.cell{s:St}(hT:Tw g s)(i:Int):Mc g s (s.aV i).1:=by
 intro c τ hc
 have h1:=sR hc
 have hl:=hT.PI.len
 unfold rd St.load St.aV St.cA
 dsimp only
 rw[cO,CG]
 have e1:(decide (1<=c)&&decide (c<=((s.cells.length+1:Nat):Int)))=true:=by simp;omega
 have e2:(decide (1<=c)&&decide (c<=(s.cells.length:Int)))=true:=by simp;omega
 rw[if_pos e1,if_pos e2,dI,xD (by omega),<- dI]
theorem T3(s:St)(i:Int):rd (s.aV i).1 (s.aV i).2=i:=by
 unfold rd St.load St.aV St.cA
 dsimp only
 rw[cO,CG,if_pos (by simp;omega),dI,show ((s.cells.length:Int)+1).toNat -1=s.cells.length by omega]
 simp
theorem z'{α:Type}{Q:α->St->Prop}{t:bC}{s:St}{r m c:Int}{n j:Nat}{k:Bool->I α}(hT:Tw g s)(ht:g.oA t.root=some .root)(hro:t.readOnly=false)(hc:oH g c (0,0))(hF:Fx g t s r m)
  (H:∀g' s' a d,Ge g g'->Tw g' s'->s'.aG=s.aG++[a,d]->a.kind=2->a.gen=(s.gen:Int)+1->d.kind=8->s'.gen=s.gen+1->rd s' t.root=s.aG.length+3->(k true).Al Q n j s'):(I.gen λx=>.alloc {kind:=2,gen:=x} c λi=>lD t r m i k).Al Q (n+6) (j+3) s:=by
 obtain⟨hT3,e3,h3⟩:=ZJ hT
 have eg:(s.gen:Int)=g.gen:=by rw[hT.PI.gen]
 refine alG (j:=j+2) ?_
 show (I.alloc {kind:=2,gen:=s.bS.2} c λi=>lD t r m i k).Al Q (n+6) (j+2) s.bS.1
 rw[e3]
 have hN:cJ g.bS {kind:=2,gen:=(g.gen:Int)+1} (0,0):=rH (by omega) (by show _<=((_+1:Nat):Int);omega) (by decide)
 obtain⟨hT4,e4,h4,a4,l4⟩:=kU hT3 (i:=c) hN ⟨λ_=>hc.ge h3,(λh=>by cases h),λh=>by cases h⟩
 have hI:=oU hT3.gw (n:={kind:=2,gen:=(g.gen:Int)+1}) (i:=c) (b:=(0,0)) rfl
 have hF2:=hF.gen.alloc hT3 (h3.oA ht) h4
 have ea:=pN s.bS.1 {kind:=2,gen:=(g.gen:Int)+1} c
 have eg4:(s.bS.1.alloc {kind:=2,gen:=(g.gen:Int)+1} c).1.gen=s.gen+1:=by unfold St.alloc St.aV;dsimp only;split<;>rfl
 obtain⟨k1,k2⟩:=TF (n:={kind:=2,gen:=(g.gen:Int)+1}) (c:=(s.bS.1.cells.length+1)) rfl
 refine Yw (j:=j+1) (λ_=>bG _ 2 _ 0 0 0) ?_
 rw[e4]
 refine U4 hT4 ((h3.trans h4).oA ht) hro hF2.rt hF2.mn hI hF2.root hF2.main hF2.prev λg' s' d b hT' a' l' hd hg hr=>H g' s' _ d ((h3.trans h4).trans b) hT' ?_ k1 (by rw[k2,eg]) hd (by rw[hg,eg4]) ?_
 ·rw[l',ea]
  show (s.aG++[_])++[d]=s.aG++[_,d]
  rw[Co];rfl
 ·rw[hr,hT.PI.nodes];rfl
theorem T5{Q:Result->St->Prop}{s:St}{m:Int}(hT:Tw g s)(hm:oH g m (0,0))(H:∀r s' b,s'.aG=s.aG++[b]->b.kind=2->b.gen=(s.gen:Int)+1->s'.gen=s.gen+1->rd s' r.aE.root=s.aG.length+3->Mc g s s'->(∃g',Tw g' s')->Q r s'):(Bt m).Al Q 0 3 s:=by
 obtain⟨hT3,e3,h3⟩:=ZJ hT
 have eg:(s.gen:Int)=g.gen:=by rw[hT.PI.gen]
 refine alG (j:=2) ?_
 rw[e3]
 have hN:cJ g.bS {kind:=2,gen:=(g.gen:Int)+1} (0,0):=rH (by omega) (by show _<=((_+1:Nat):Int);omega) (by decide)
 obtain⟨hT4,e4,h4,a4,l4⟩:=kU hT3 (i:=m) hN ⟨λ_=>hm.ge h3,(λh=>by cases h),λh=>by cases h⟩
 have ea:=pN s.bS.1 {kind:=2,gen:=(g.gen:Int)+1} m
 have eg4:(s.bS.1.alloc {kind:=2,gen:=(g.gen:Int)+1} m).1.gen=s.gen+1:=by unfold St.alloc St.aV;dsimp only;split<;>rfl
 obtain⟨k1,k2⟩:=TF (n:={kind:=2,gen:=(g.gen:Int)+1}) (c:=(s.bS.1.cells.length+1)) rfl
 have hS:Mc g s (s.bS.1.alloc {kind:=2,gen:=(g.gen:Int)+1} m).1:=λc τ hc=>Mc.alloc hT3 _ _ c τ (h3.oA hc)
 refine Yw (j:=1) (λ_=>bG _ 2 _ 0 0 0) (P' (j:=0) ?_)
 rw[e4]
 have hI:=oU hT3.gw (n:={kind:=2,gen:=(g.gen:Int)+1}) (i:=m) (b:=(0,0)) rfl
 obtain⟨t5,_⟩:=hT4.PI.cell hT4.gw (.inl rfl) hI
 refine H _ _ _ ea k1 (by rw[k2,eg]) eg4 ?_ (λc τ hc=>(Mc.cell hT4 _ c τ ((h3.trans h4).oA hc)).trans (hS c τ hc)) ⟨_,EI hT4.gw .root _,t5⟩
 have:=T3 (s.bS.1.alloc {kind:=2,gen:=(g.gen:Int)+1} m).1 ((g.bS.nodes.length:Int)+3)
 rw[hT.PI.nodes]
 exact this
structure SnG(t:bC)(r:Result)(s:St):Prop where
 tw:∃g,Tw g s
 ex:∃x y:Int,rd s t.root=x/\rd s r.aE.root=y/\(s.node x).kind=2/\(s.node y).kind=2/\x≠y/\(s.node x).gen≠(s.node y).gen/\∀i,(s.node i).kind=2->i≠x->i≠y->(s.node i).gen≠(s.node x).gen/\(s.node i).gen≠(s.node y).gen
theorem Sq(s:St)(r:Int)(h:3<=r):s.node r=s.aG.getD (r.toNat-3) {}:=by
 unfold St.node St.nodes
 split
 ·rename_i h1
  rw[dI,List.getElem?_eq_none (by omega)];rfl
 ·rw[if_neg (by omega)]
theorem L7(s:St)(r:Int)(h:r<3):(s.node r).kind≠2:=by
 unfold St.node
 split
 ·decide
 ·rw[if_pos (by omega)];decide
theorem W6{t:bC}{s s':St}{r:Result}{a d b:Node}(hT':∃g,Tw g s')(hT:Tw g s)(e:s'.aG=s.aG++[a,d,b])(ka:a.kind=2)(kd:d.kind=8)(kb:b.kind=2)(ga:a.gen=(s.gen:Int)+1)(gb:b.gen=(s.gen:Int)+2)(h1:rd s' t.root=s.aG.length+3)(h2:rd s' r.aE.root=s.aG.length+5):SnG t r s':=by
 have at_:∀i:Nat,s'.node ((s.aG.length+i+3:Nat):Int)=[a,d,b].getD i {}:=by
  intro i
  rw[Sq _ _ (by omega),e,show (((s.aG.length+i+3:Nat):Int)).toNat -3=s.aG.length+i by omega,dI,tW (by omega),Nat.add_sub_cancel_left,dI]
 have n1:s'.node ((s.aG.length:Int)+3)=a:=at_ 0
 have n2:s'.node ((s.aG.length:Int)+5)=b:=at_ 2
 refine⟨hT',_,_,h1,h2,by rw[n1];exact ka,by rw[n2];exact kb,by omega,by rw[n1,n2,ga,gb];omega,λi hi hx hy=>?_⟩
 rw[n1,n2,ga,gb]
 have hlt:(s'.node i).gen<=s.gen:=by
  rcases(show i<3\/3<=i by omega)with h3|h3
  ·exact absurd hi (L7 s' i h3)
  ·obtain⟨j,rfl⟩:∃j:Nat,i=((j+3:Nat):Int):=⟨i.toNat-3,by omega⟩
   rcases yM j s.aG.length with hj|hj
   ·have en:s'.node ((j+3:Nat):Int)=g.node ((j+3:Nat):Int):=by
     rw[<- hT.PI.node,Sq _ _ (by omega),Sq _ _ (by omega),e,dI,xD (by omega),<- dI]
    rw[en]at hi ⊢
    have:=(hT.gw.of (r:=((j+3:Nat):Int)) (by rw[hi];decide)).i hi
    rw[hT.PI.gen];exact this.1
   ·obtain⟨q,rfl⟩:∃q,j=s.aG.length+q:=⟨j-s.aG.length,by omega⟩
    rw[at_ q]at hi
    match q,hi with
    |0,_=>exfalso;omega
    |1,hi=>exact absurd (kd.symm.trans hi) (by decide)
    |2,_=>exfalso;omega
    |q+3,hi=>exact absurd hi (by show ¬((0:Int)=2);decide)
 omega
theorem Z3{t:bC}{s:St}(n:Nat)(hT:Tw g s)(hk:Tk g t)(hro:t.readOnly=false):(Cg t (n+1)).Al (SnG t) 31 8 s:=by
 have ht:=hk.root hro
 unfold Cg;rw[hro]
 show (Gb t (λr m=>Bt m) (n+1)).Al (SnG t) 31 8 s
 refine AZ (n:=16) (j:=7) hT hk λg1 s1 r h1 hT1 hr q1=>Au (n:=6) (j:=6) hT1 (hk.ge h1) hr λg2 s2 m h2 hT2 hm q2 hR _=>?_
 refine z' (n:=0) (j:=3) hT2 ((h1.trans h2).oA ht) hro hm.m ⟨hr.ge h2,hm.m,i9 hR hr q1,q2,DO hT2 hm⟩ λg' s' a d h3 hT3 e1 ka ga kd eg hx=>?_
 refine T5 hT3 (hm.m.ge h3) λr s4 b e2 kb gb _ hy hS h4=>?_
 refine W6 (a:=a) (d:=d) (b:=b) h4 hT2 (by rw[e2,e1,Co];rfl) ka kd kb ga (by rw[gb,eg];omega) ?_ ?_
 ·rw[hS _ _ ((h1.trans (h2.trans h3)).oA ht)];exact hx
 ·rw[hy,e1,cO]
  show (((s2.aG.length+2:Nat):Int))+3=_
  omega
structure SnR(t:bC)(s:St)(u:I Result)(x y:Nat):Prop where
 rm:Rm 101 s
 tw:∃g,Tw g s
 r1:rootOf s t=(((x+1:Nat):Int),true)
 r2:rootOf s (u.ended.getD {}).aE=(((y+1:Nat):Int),true)
 xl:x<2+s.aG.length
 yl:y<2+s.aG.length
 ne:x≠y
 gxy:(s.node ((x+1:Nat):Int)).gen≠(s.node ((y+1:Nat):Int)).gen
 oth:∀k:Nat,(s.node ((k+1:Nat):Int)).kind=2->k≠x->k≠y->(s.node ((k+1:Nat):Int)).gen≠(s.node ((x+1:Nat):Int)).gen/\(s.node ((k+1:Nat):Int)).gen≠(s.node ((y+1:Nat):Int)).gen
structure aA8(S0:St)(t:bC)(z x y:Nat):Prop where
 le:z<=31
 run:∀i,i<z->(alone ((Cg t FU).head S0).1 ((Cg t FU).head S0).2 i).2.ended.isSome=false
 fin:(alone ((Cg t FU).head S0).1 ((Cg t FU).head S0).2 z).2.ended.isSome=true
 rm:∀i,i<=z->Rm 101 (alone ((Cg t FU).head S0).1 ((Cg t FU).head S0).2 i).1
 A6:SnR t (alone ((Cg t FU).head S0).1 ((Cg t FU).head S0).2 z).1 (alone ((Cg t FU).head S0).1 ((Cg t FU).head S0).2 z).2 x y
theorem JY{s:St}{t:bC}{x:Int}(h:rd s t.root=x)(hk:(s.node x).kind=2):rootOf s t=(x,true):=by
 subst h
 have hk':(s.node (s.load t.root).2).kind=2:=hk
 have eD:Dw s t=rd s t.root:=by
  unfold Dw
  rw[show ((s.node (s.load t.root).2).kind==8)=false by rw[hk'];rfl];rfl
 unfold rootOf
 rw[eD,show ((s.node (rd s t.root)).kind != 2)=false by rw[show (s.node (rd s t.root)).kind=2 from hk];rfl];rfl
theorem GR{s:St}{x:Int}(h:(s.node x).kind=2):∃k:Nat,x=((k+1:Nat):Int)/\k<2+s.aG.length:=by
 refine⟨x.toNat-1,?_⟩
 unfold St.node St.nodes at h
 split at h
 ·exact absurd h (by decide)
 ·omega
theorem YR{s:St}{t:bC}(hT:Tw g s)(hk:Tk g t)(hro:t.readOnly=false)(hf:eK s)(hz:s.size<=80000000000):∃z x y,aA8 s t z x y:=by
 have eF:FU=99999999+1:=rfl
 have ha:=Z3 99999999 hT hk hro
 rw[<- eF]at ha
 obtain⟨i,hi,hG,hr,ha⟩:=Al.head ha
 obtain⟨z,hzn,hg,hrun,r,e1,e2,e3⟩:=Al.run 31 (8-i) _ _ ha hr
 have a1:=hG.nodes;have a2:=hG.more;have a3:=hG.size
 obtain⟨tw,x,y,b1,b2,b3,b4,b5,b6,b7⟩:=e2
 obtain⟨x,rfl,xl⟩:=GR b3
 obtain⟨y,rfl,yl⟩:=GR b4
 have hrm:∀k,k<=z->Rm 101 (alone ((Cg t FU).head s).1 ((Cg t FU).head s).2 k).1:=λk hk=>by
  have c:=hg k hk
  have c3:=c.size
  exact⟨c.fit (hG.fit hf),by unfold cN;omega⟩
 exact⟨z,x,y,hzn,hrun,by rw[e1];rfl,hrm,hrm z (JV z),tw,JY b1 b3,by rw[e1];exact JY b2 b4,xl,yl,by omega,b6,λk h1 h2 h3=>b7 _ h1 (by omega) (by omega)⟩
end Go.Ct
end
section
namespace Go.Q9
open Go.Proofs.Tryz
open Go.E
end Go.Q9
end
