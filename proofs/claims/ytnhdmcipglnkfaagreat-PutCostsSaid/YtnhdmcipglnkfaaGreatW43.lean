/- Parts of a proof: Lq, Ayj, Lr, Wv, Ayl, Wa, Lu, Aym, Wx, Ayo, Pz, Ayp, Pz2. -/
import Derived.Test.YtnhdmcipglnkfaaGreatW42
set_option linter.unusedVariables false
set_option linter.unusedSimpArgs false
set_option maxRecDepth 100000
set_option maxHeartbeats 4000000
section
namespace Go.Q9
open Go.Proofs.Tryz
open Go.RowKit Go.E
variable{B w:World}{L:List As}
theorem aA8(a:Addr)(w:World):(method 383 25 (.pointer (some a)) "Node").run prog w=.ok (48,.pointer (some a)) w:=by kernel_rfl
theorem D4(a:Addr)(w:World):(method 383 25 (.pointer (some a)) "Alloc").run prog w=.ok (319,.pointer (some a)) w:=by kernel_rfl
theorem PA(a:Addr)(w:World):(method 383 25 (.pointer (some a)) "NewCell").run prog w=.ok (322,.pointer (some a)) w:=by kernel_rfl
theorem UE(a:Addr)(w:World):(method 383 25 (.pointer (some a)) "NewGen").run prog w=.ok (323,.pointer (some a)) w:=by kernel_rfl
theorem Y'(a:Addr)(w:World):(method 383 25 (.pointer (some a)) "Load").run prog w=.ok (321,.pointer (some a)) w:=by kernel_rfl
theorem aF8(a:Addr)(w:World):(method 383 25 (.pointer (some a)) "CAS").run prog w=.ok (320,.pointer (some a)) w:=by kernel_rfl
theorem aE6(a:Addr)(w:World):(nilAhead 383 25 (.pointer (some a)) "Alloc").run prog w=.ok (some false) w:=by kernel_rfl
theorem i1(ab:Nat)(w:World):OP 25 (ZD ab) ab w:=⟨aA8 _ w,D4 _ w,PA _ w,UE _ w,Y' _ w,aF8 _ w⟩
theorem Z3(a:Addr)(w:World):∀f,1≤f→(method f 25 (.pointer (some a)) "Node").run prog w=.ok (48,.pointer (some a)) w
 |0,h=>absurd h (by decide)
 |f+1,_=>by kernel_rfl
theorem D7(a:Addr)(w:World):∀f,1≤f→(method f 25 (.pointer (some a)) "Alloc").run prog w=.ok (319,.pointer (some a)) w
 |0,h=>absurd h (by decide)
 |f+1,_=>by kernel_rfl
theorem NE(a:Addr)(w:World):∀f,1≤f→(method f 25 (.pointer (some a)) "NewCell").run prog w=.ok (322,.pointer (some a)) w
 |0,h=>absurd h (by decide)
 |f+1,_=>by kernel_rfl
theorem UL(a:Addr)(w:World):∀f,1≤f→(method f 25 (.pointer (some a)) "NewGen").run prog w=.ok (323,.pointer (some a)) w
 |0,h=>absurd h (by decide)
 |f+1,_=>by kernel_rfl
def arX:List As:=[]
def iB(ab:Nat):fX:=⟨25,ZD ab,ab,arX,1,by decide,λ_=>⟨Z3 _ _,D7 _ _,NE _ _,UL _ _⟩⟩
instance (ab:Nat):Full (iB ab):=⟨λw=>aE6 _ w⟩
theorem aBh{ab:Nat}{s:Ct.St}(h:SH B w (yD ab s::L)):SH B w ((iB ab).a s::L):=SH.si (S:=iB ab) (((SH.is (l:=[]) h).fr (.c r1 .n)))
theorem aHy{ab:Nat}{s:Ct.St}(h:SH B w ((iB ab).a s::L)):SH B w (yD ab s::L):=(SH.so (S:=iB ab) h).fr (.c r0 .n) |>.fr (.c r1 .n) |>.drop
theorem Qk(ab:Nat)(s:Ct.St)(h:SH B w ((iB ab).a s::L))(hr:s.size<=100000000000)(hf:Ct.cL s):
  Calls prog 11 #[↑ab] w λe w'=>∃pn cn pc cc zs,zs.map Prod.fst=aZ s/\e=.returned (.agg [.slice pn zs.length cn,.slice pc s.cells.length cc,↑(s.gen:Int)].toArray)/\SH B w' (aV 53 14 (.slice pn zs.length cn) zs.length (zs.flatMap bY)::aV 44 1 (.slice pc s.cells.length cc) s.cells.length (s.cells.map (Value.int .i64))::bH zs::(iB ab).a s::L):=by
 refine(Xp ab s (SH.so (S:=iB ab) h) hr hf).mono ?_
 rintro e w' ⟨pn,cn,pc,cc,zs,hz,rfl,h⟩
 exact⟨pn,cn,pc,cc,zs,hz,rfl,(SH.si (S:=iB ab) (h.fr (.c r3 (.c r3 .n)))).fr (.c r1 (.c r1 (.c r1 .n)))⟩
end Go.Q9
end
section
namespace Go.Q9
open Go.Proofs.Tryz
open Go.E
end Go.Q9
end
section
namespace Go.Q9
open Go.Proofs.Tryz
open Go.RowKit Go.E
attribute [local irreducible] gA wpS Go.E.X XS C kV lL fin Y U F Ca kU bl rb aV bS ex ce pu sK gK bK zK gG fE cZ gY mA rQ
theorem rJ{s:Ct.St}(hf:Ct.cL s)(hr:s.size<=100000000000):∀n∈aZ s,n.aA.length<=1000000/\n.aH.length<=200000000000/\n.aC<18446744073709551616:=by
 have hm:Ct.iH.aA.length<=1000000/\Ct.iH.aH.length<=200000000000/\Ct.iH.aC<18446744073709551616:=by decide
 intro n m
 unfold aZ at m
 rcases List.mem_cons.1 m with rfl|m
 ·exact hm
 ·rcases List.mem_cons.1 m with rfl|m
  ·exact hm
  ·have h:=hf n m
   have h1:=Hk h (by unfold Ct.St.size at hr;omega)
   exact⟨h1.1,h1.2,h.1.2.2.1⟩
end Go.Q9
end
section
namespace Go.Ct
set_option maxRecDepth 100000
instance (n:Node)(L:Nat):Decidable (n.Fit L):=by unfold Node.Fit Node.fits;infer_instance
end Go.Ct
end
section
namespace Go.Q9
open Go.Proofs.Tryz
open Go.E
theorem RZ:prog.underlying 25=some (.pointer 105):=by kernel_rfl
end Go.Q9
end
section
namespace Go.Q9
open Go.Proofs.Tryz
open Go.RowKit Go.E
attribute [local irreducible] gA wpS Go.E.X XS C kV lL fin Y U F Ca kU bl rb aV bS ex ce pu sK gK bK zK gG fE cZ gY mA rQ
variable{B w:World}{L:List As}
theorem GL(S:fX)(hM:∀w,OP S.t S.x S.ab w)(n tb k z Jp:Nat)(p:Nat->Ct.St×Ct.I Ct.Result)(h:SH B w (nM S n tb (p 0).2 k::S.a (p 0).1::L))(aKd:∀i,p (i+1)=(p i).2.step (p i).1)(Hw:∀i,i<z->(p i).2.ended.isSome=false)(aSf:(p z).2.ended.isSome=true)(hzm:z<=Jp)(hzn:z<=n)(Js:∀i,i<z->Ct.Rm 101 (p i).1)(hk:k+z<=1000000000000)(hm:Jp<=1000000000000):
  Calls prog 10 #[↑tb,↑(Jp:Int)] w λe w'=>e=.returned ↑(z:Int)/\SH B w' (nM S (n-z) tb (p z).2 (k+z)::S.a (p z).1::L):=by
 refine cN func10 ntmps10 h λw h=>?_
 refine lp (α:=Nat) (λρ=>(.c 0 ↑tb (.c 1 ↑(Jp:Int) (.c 5 (.int .i64 (ρ:Int)) .n)))) (λρ w=>SH B w (nM S (n-ρ) tb (p ρ).2 (k+ρ)::S.a (p ρ).1::L)/\(ρ<=z)) (λρ=>z-ρ) 0 ⟨rfl,rfl,rfl,trivial⟩ ⟨h,bZ _⟩ ?_
 rintro i w ⟨h,hi⟩
 have h:=h.fr (.c r0 .n)
 obtain⟨c,h⟩:=SH.to h
 have hc:=Hr (h.fr (.c r1 .n))
 refine go h λw h=>?_
 refine qg h (λdF w h=>?_) λdF w h=>?_
 ·refine bQ (Na S _ c _ _ h.to) λw h=>?_
  refine qg h (λcJ w h=>?_) λcJ w h=>?_
  ·have eB:=(gZ _).mp cJ
   have h:=SH.ti (h.fr (.c r0 (.c r0 .n)))
   have hiz:i<z:=by
    rcases Gg i z with hz|hz
    ·exact hz
    ·obtain rfl:i=z:=by omega
     have h1:=hc.1.symm.trans eB
     rw[aSf]at h1;cases h1
   rw[show n-i=n-(i+1)+1 by omega]at h
   refine bQ (VH S hM _ _ _ (p i).2 _ h.to (Js i hiz) (by have:=Hw i hiz;simpa using this) (by omega)) λw h=>?_
   rw[<- aKd i]at h
   exact⟨((i+1)),⟨rfl,rfl,rfl,trivial⟩,⟨h,hiz⟩,by(try dsimp only);omega⟩
  ·have dJ:=(hU _).mp cJ
   have h:=SH.ti (h.fr (.c r0 (.c r0 .n)))
   refine rz ?_
   have hiz:i=z:=by
    rcases Gg i z with hz|hz
    ·have h1:=hc.1.symm.trans dJ
     rw[Hw i hz]at h1;cases h1
    ·omega
   subst hiz
   exact⟨rfl,h⟩
 ·have Ua:=dR dF
  refine go h λw h=>?_
  have h:=SH.ti (h.fr (.c r0 (.c r0 .n)))
  refine go h λw h=>?_
  refine rz ?_
  have hiz:i=z:=by
   rcases Gg i z with hz|hz
   ·omega
   ·omega
  subst hiz
  exact⟨rfl,h⟩
end Go.Q9
end
section
namespace Go.Q9
open Go.Proofs.Tryz
open Go.RowKit Go.E
end Go.Q9
end
section
namespace Go.Q9
open Go.Proofs.Tryz
open Go.E
end Go.Q9
end
section
namespace Go.Q9
open Go.Proofs.Tryz
open Go.RowKit Go.E
attribute [local irreducible] gA wpS Go.E.X XS C kV lL fin Y U F Ca kU bl rb aV bS ex ce pu sK gK bK zK gG fE cZ gY mA rQ
end Go.Q9
end
section
namespace Go.Q9
open Go.Proofs.Tryz
open Go.E
end Go.Q9
end
section
namespace Go.Q9
open Go.Proofs.Tryz
open Go.RowKit Go.E Go.Ct
attribute [local irreducible] gA wpS Go.E.X XS C kV lL fin Y U F Ca kU bl rb aV bS ex ce pu sK gK bK zK gG fE cZ gY mA
variable{B w:World}{L:List As}
theorem xF(n:Ct.Node)(q:Lq)(h:SH B w (aL n q::L))(nf:NF n):
  Calls prog 255 #[.agg (aK n q).toArray] w λe w'=>e=.returned ↑n.oT/\SH B w' (aL n q::L):=by
 have nf_br:=nf.br
 have nf_pr:=nf.pr
 have nf_bm:=nf.bm
 have nf_hs:=nf.hs
 have nf_ks:=nf.ks
 refine cN func255 ntmps255 h λw h=>?_
 refine jX h λb1 w h=>?_
 refine qg h (λcO w h=>?_) λcO w h=>?_
 have Lt:=eq_of_beq cO
 refine go h λw h=>?_
 refine bQ (Ea _ _ _ _ _ h.to (nf.v3 (by omega)) (by omega) (by omega) (by omega)) λw h=>?_
 exact rz ⟨by rw[CF cO (nf.v3 (eq_of_beq cO))],h.to⟩
 have Tv:=bM cO
 refine go h λw h=>?_
 exact rz ⟨by rw[d5 cO],h.drop⟩
theorem WN(n:Ct.Node)(q:Lq)(h:SH B w (aL n q::L))(nf:NF n):
  Calls prog 266 #[.agg (aK n q).toArray] w λe w'=>e=.returned ↑n.Tq/\SH B w' (aL n q::L):=by
 have nf_br:=nf.br
 have nf_pr:=nf.pr
 have nf_bm:=nf.bm
 have nf_hs:=nf.hs
 have nf_ks:=nf.ks
 refine cN func266 ntmps266 h λw h=>?_
 refine jX h λb1 w h=>?_
 refine qg h (λcO w h=>?_) λcO w h=>?_
 have Lt:=eq_of_beq cO
 refine go h λw h=>?_
 refine bQ (Ea _ _ _ _ _ h.to (nf.v6 (by omega)) (by omega) (by omega) (by omega)) λw h=>?_
 exact rz ⟨by rw[Np cO (nf.v6 (eq_of_beq cO))],h.to⟩
 have Tv:=bM cO
 refine go h λw h=>?_
 exact rz ⟨by rw[A4 cO],h.drop⟩
theorem Kg(n:Ct.Node)(q:Lq)(i:Int)(h:SH B w (aL n q::L))(nf:NF n)(hc:n.oT=true)(h0:0<=i)(h1:i<64):
  Calls prog 259 #[.agg (aK n q).toArray,↑i] w λe w'=>e=.returned ↑true/\SH B w' (aL n q::L):=by
 have nf_br:=nf.br
 have nf_pr:=nf.pr
 have nf_bm:=nf.bm
 have nf_hs:=nf.hs
 have nf_ks:=nf.ks
 refine cN func259 ntmps259 h λw h=>?_
 refine jX h λb1 w h=>?_
 refine bQ (xF _ _ h.to nf) λw h=>?_
 refine rz ?_
 exact⟨by rw[show (decide ((i:Int)<64))=true from gM (by omega)],h.to⟩
theorem zQ(n:Ct.Node)(pb:Option Addr)(cb:Nat)(pp:Option Addr)(cp:Nat)(i:Int)(h:SH B w (aL n (⟨pb,cb,pp,cp⟩)::L))(nf:NF n):
  Calls prog 228 #[.agg (aK n (⟨pb,cb,pp,cp⟩)).toArray,↑i] w λe w'=>e=.returned (.tuple #[.int .i64 (Ct.aB n i).1,.bool (Ct.aB n i).2])/\SH B w' (aL n ⟨pb,cb,pp,cp⟩::L):=by
 have nf_bm:=nf.bm
 have nf_hs:=nf.hs
 have nf_ks:=nf.ks
 refine cN func228 ntmps228 h λw h=>?_
 refine jX h λb1 w h=>?_
 refine bQ (xF _ (⟨pb,cb,pp,cp⟩) h.to nf) λw h=>?_
 refine qg h (λcO w h=>?_) λcO w h=>?_
 have cJ:=(gZ _).mp cO
 refine go h λw h=>?_
 exact rr (iG rfl rfl rfl)<|⟨by rw[AN cJ],h.to⟩
 have eB:=(hU _).mp cO
 refine go h λw h=>?_
 refine cl (ca eF rfl) ((Ep n.aC i _ (by omega)).mono ?_)
 rintro _ _ ⟨rfl,rfl⟩
 refine⟨_,rfl,?_⟩
 refine gT rfl rfl cO<|st (nt rfl)<|st (pF rfl cO rfl)<|xe<|nx<|?_
 refine go h λw h=>?_
 refine qc h (λdM w h=>?_) λdM w h=>?_
 have dJ:=(gZ _).mp dM
 refine go h λw h=>?_
 exact rr (iG rfl rfl rfl)<|⟨by rw[Jj dJ],h.to⟩
 have fF:=(hU _).mp dM
 refine go h λw h=>?_
 have h:=SH.se (l:=[bE n (⟨pb,cb,pp,cp⟩),cP n (⟨pb,cb,pp,cp⟩)]) h
 have hlt:=aBx eB fF
 obtain⟨b8,o9,rfl⟩:=h.fq a0 (by omega)
 refine fD [1,3,5,7,9,10,13,15,16,18] (by kernel_rfl) h (.c r2 (.c r0 .n)) λw h=>go h λw h=>?_
 refine cs (ca eF rfl) ((wX n.aC i _ (by omega)).mono ?_)
 rintro _ _ ⟨rfl,rfl⟩
 refine⟨_,rfl,h.hs (.c r2 (.c r0 .n)),?_⟩
 refine tk (λW H=>ix (j:=Bm.aN n.aC i) gN uM rfl rfl (by omega))<|tk (λW H=>ld jE rfl ((H.rr a1).i (by omega)))<|ef (sg rfl) (h.hs (.c r2 (.c r0 .n)))<|ef (sg rfl) (h.hs (.c r2 (.c r0 .n)))<|xz<|nx<|rt<|?_
 exact rr (iG rfl rfl rfl)<|⟨by rw[z5 eB fF],SH.is (l:=[bE n ⟨some ⟨b8,o9,none⟩,cb,pp,cp⟩,cP n ⟨some ⟨b8,o9,none⟩,cb,pp,cp⟩]) h.to⟩
theorem VZ(n:Ct.Node)(pb:Option Addr)(cb:Nat)(pp:Option Addr)(cp:Nat)(h:SH B w (aL n (⟨pb,cb,pp,cp⟩)::L))(nf:NF n):
  Calls prog 261 #[.agg (aK n (⟨pb,cb,pp,cp⟩)).toArray] w λe w'=>e=.returned (.tuple #[.int .i64 (Ct.iP n).1,.bool (Ct.iP n).2])/\SH B w' (aL n ⟨pb,cb,pp,cp⟩::L):=by
 refine cN func261 ntmps261 h λw h=>?_
 refine jX h λb1 w h=>?_
 refine bQ (xF _ (⟨pb,cb,pp,cp⟩) h.to nf) λw h=>?_
 refine qg h (λcO w h=>?_) λcO w h=>?_
 have cJ:=(gZ _).mp cO
 exact rr (iG rfl rfl rfl)<|⟨by rw[I9 cJ],h.to⟩
 have eB:=(hU _).mp cO
 refine qc h (λdM w h=>?_) λdM w h=>?_
 have CX:=bne_iff_ne.1 dM
 refine go h λw h=>?_
 exact rr (iG rfl rfl rfl)<|⟨by rw[C9 (by omega)],h.to⟩
 have El:=eT dM
 refine go h λw h=>?_
 have h:=SH.se (l:=[bE n (⟨pb,cb,pp,cp⟩),cP n (⟨pb,cb,pp,cp⟩)]) h
 refine go h λw h=>?_
 obtain⟨b8,o9,rfl⟩:=h.fq a0 (by omega)
 refine go h λw h=>?_
 exact rr (iG rfl rfl rfl)<|⟨by rw[I4 eB (by omega)],SH.is (l:=[bE n ⟨some ⟨b8,o9,none⟩,cb,pp,cp⟩,cP n ⟨some ⟨b8,o9,none⟩,cb,pp,cp⟩]) h.to⟩
theorem uC(x:Nat)(key:ByteArray)(v:Nat)(h:SH B w (L)):
  Calls prog 258 #[.int .u64 (x:Int),↑key,.int .u64 (v:Int)] w λe w'=>e=.returned (.agg (aK ({kind:=4,hash:=x,key:=key,value:=v}:Ct.Node) {}).toArray)/\SH B w' L:=by
 refine cN func258 ntmps258 h λw h=>?_
 refine jA h λb1 w h=>?_
 exact rr (cD rfl rfl (h.b a0) Row.h)<|⟨rfl,h.drop⟩
theorem VT(x:Nat)(key:ByteArray)(v:Nat)(h:SH B w (L)):
  Calls prog 262 #[.int .u64 (x:Int),↑key,.int .u64 (v:Int)] w λe w'=>e=.returned (.agg (aK ({kind:=5,hash:=x,key:=key,value:=v}:Ct.Node) {}).toArray)/\SH B w' L:=by
 refine cN func262 ntmps262 h λw h=>?_
 refine jA h λb1 w h=>?_
 exact rr (cD rfl rfl (h.b a0) Row.h)<|⟨rfl,h.drop⟩
theorem Vj(n:Ct.Node)(q:Lq)(h:SH B w (aL n q::L)):
  Calls prog 230 #[.agg (aK n q).toArray] w λe w'=>∃q',e=.returned (.tuple #[.agg (aK (Ct.aP n).1 q').toArray,.bool (Ct.aP n).2])/\SH B w' (aL (Ct.aP n).1 q'::aL n q::L):=by
 refine cN func230 ntmps230 h λw h=>?_
 refine jX h λb1 w h=>?_
 refine jA h λb2 w h=>?_
 refine qc h (λcJ w h=>?_) λcJ w h=>?_
 have Tv:=bne_iff_ne.1 cJ
 refine go h λw h=>?_
 refine rr (dS rfl rfl (h.b a0) Row.h rfl) ?_
 rw[aC6 (by omega)];exact⟨{},rfl,SH.fI _ rfl rfl h.drop.drop⟩
 have Vu:=eT cJ
 refine go h λw h=>?_
 refine bQ (uC _ _ _ h.to) λw h=>?_
 refine rr (dS rfl rfl (h.b a0) Row.h rfl) ?_
 rw[n8 (by omega)];exact⟨{},rfl,SH.fI _ rfl rfl h.drop.drop⟩
theorem AM(n:Ct.Node)(q:Lq)(h:SH B w (aL n q::L))(hb:n.aA.length<=1000000)(hp:n.aH.length<=200000000000):
  Calls prog 72 #[.agg (aK n q).toArray] w λe w'=>∃q',e=.returned (.agg (aK n q').toArray)/\SH B w' (aL n q'::aL n q::L):=by
 exact Am n q (h.Wr .z) hb hp
theorem Me(n:Ct.Node)(q:Lq)(level:Int)(s:Ct.Node)(q2:Lq)(h:SH B w (aL n q::aL s q2::L))(nf:NF n)(hpz:n.aH.length<=200000000000):
  Calls prog 232 #[.agg (aK n q).toArray,↑level,.agg (aK s q2).toArray] w λe w'=>∃q',e=.returned (.agg (aK (Ct.bI n level s) q').toArray)/\SH B w' (aL (Ct.bI n level s) q'::aL n q::aL s q2::L):=by
 have nf_br:=nf.br
 have nf_pr:=nf.pr
 have nf_bm:=nf.bm
 have nf_hs:=nf.hs
 have nf_ks:=nf.ks
 refine cN func232 ntmps232 h λw h=>?_
 refine jX h λb1 w h=>?_
 refine jX h λb2 w h=>?_
 refine jA h λb3 w h=>?_
 refine bQ (VZ _ _ _ _ _ h.to nf) λw h=>?_
 refine qg h (λeB w h=>?_) λeB w h=>?_
 have Vu:=dH eB
 refine go h λw h=>?_
 refine qg h (λdJ w h=>?_) λdJ w h=>?_
 refine qc h (λfF w h=>?_) λfF w h=>?_
 have Ua:=eq_of_beq fF
 refine go h λw h=>?_
 refine bQ (VT _ _ _ h.to) λw h=>?_
 refine rr (cD rfl rfl (h.b a1) Row.h) ?_
 rw[C0 dJ (by omega) (by omega)];exact⟨{},rfl,SH.fI _ rfl rfl (h.fr (.c r1 (.c r1 (.c r1 .n)))).drop.drop.drop⟩
 have CY:=bM fF
 refine go h λw h=>?_
 refine cS (AM _ _ h.to (by omega) (by omega)) λwI w h=>?_
 refine rr (cD rfl rfl (h.b a2) Row.h) ?_
 rw[A7 (by omega)];exact⟨wI,rfl,(h.fr (.c r2 (.c r2 (.c r2 .n)))).drop.drop.drop⟩
 refine cS (AM _ _ h.to (by omega) (by omega)) λUg w h=>?_
 refine rr (cD rfl rfl (h.b a2) Row.h) ?_
 rw[K0 dJ];exact⟨Ug,rfl,(h.fr (.c r2 (.c r2 (.c r2 .n)))).drop.drop.drop⟩
 have QK:=dR eB
 refine go h λw h=>?_
 refine cS (AM _ _ h.to (by omega) (by omega)) λBj w h=>?_
 refine rr (cD rfl rfl (h.b a2) Row.h) ?_
 rw[I6 (by omega)];exact⟨Bj,rfl,(h.fr (.c r2 (.c r2 (.c r2 .n)))).drop.drop.drop⟩
end Go.Q9
end
section
namespace Go.Q9
open Go.Proofs.Tryz
open Go.E
theorem yN:prog.underlying 253=some (.slice 40):=by kernel_rfl
end Go.Q9
end
section
namespace Go.Q9
open Go.Proofs.Tryz
open Go.RowKit Go.E Go.Ct
attribute [local irreducible] gA wpS Go.E.X XS C kV lL fin Y U F Ca kU bl rb aV bS ex ce pu sK gK bK zK gG fE cZ gY mA
def PB(a b c:List Int):Nat->List Int|0=>[]|1=>[]++a|2=>[]++a++b|_=>[]++a++b++c
theorem aDn(a b:List Int):a.length+b.length=(a++b).length:=by rw[cV]
section
attribute [local semireducible] gA wpS Go.E.X XS C kV lL fin Y U F Ca kU bl rb aV bS ex ce pu sK gK bK zK gG fE cZ gY mA
attribute [local irreducible] gA wpS
end
section
attribute [local semireducible] gA wpS Go.E.X XS C kV lL fin Y U F Ca kU bl rb aV bS ex ce pu sK gK bK zK gG fE cZ gY mA
attribute [local irreducible] gA wpS
variable{B w:World}{L:List As}
theorem ER(l1:List Int)(YL:Option Addr)(YT:Nat)(l2:List Int)(Tz:Option Addr)(Ts:Nat)(l3:List Int)(YO:Option Addr)(YR:Nat)(lb:Nat)(h:SH B w (aV 40 1 (.slice (some ⟨lb,0,none⟩) 3 3) 3 ([.slice YL l1.length YT,.slice Tz l2.length Ts,.slice YO l3.length YR])::bS 1 (.slice YL l1.length YT) l1.length (l1.map (Value.int .i64))::bS 1 (.slice Tz l2.length Ts) l2.length (l2.map (Value.int .i64))::bS 1 (.slice YO l3.length YR) l3.length (l3.map (Value.int .i64))::L))(YF:l1.length<=1000000)(YH:l2.length<=1000000)(hl3:l3.length<=1000000):
  Calls prog 283 #[.slice (some ⟨lb,0,none⟩) 3 3] w λe w'=>∃p c',e=.returned (.slice p (l1++l2++l3).length c')/\SH B w' (bS 1 (.slice p (l1++l2++l3).length c') (l1++l2++l3).length ((l1++l2++l3).map (Value.int .i64))::L):=by
 refine Kk (args:=[_]) func283 rfl ntmps283 rfl ?_
 refine sq<|rg<|st (sg rfl)<|xe<|nx<|sq<|rg<|st (sg rfl)<|xe<|nx<|sq<|sq<|rg<|st (mv rfl)<|st (ln yN rfl rfl)<|st (mv rfl)<|xe<|nx<|bk<|?_
 refine lp (α:=Nat×Nat) (λρ=>(.c 0 (.slice (some ⟨lb,0,none⟩) 3 3) (.c 3 (.int .i64 (ρ.2:Int)) (.c 9 (.slice (some ⟨lb,0,none⟩) 3 3) (.c 10 (.int .i64 3) (.c 11 (.int .i64 (ρ.1:Int)) .n)))))) (λρ w=>SH B w (aV 40 1 (.slice (some ⟨lb,0,none⟩) 3 3) 3 ([.slice YL l1.length YT,.slice Tz l2.length Ts,.slice YO l3.length YR])::bS 1 (.slice YL l1.length YT) l1.length (l1.map (Value.int .i64))::bS 1 (.slice Tz l2.length Ts) l2.length (l2.map (Value.int .i64))::bS 1 (.slice YO l3.length YR) l3.length (l3.map (Value.int .i64))::L)/\(ρ.1<=3)/\(ρ.2<=ρ.1*1000000)) (λρ=>3-ρ.1) (0,0) ⟨rfl,rfl,rfl,rfl,rfl,trivial⟩ ⟨h,(bZ _),(bZ _)⟩ ?_
 rintro⟨k,m⟩ w ⟨h,hk,hm⟩
 dsimp only at *
 rcases(show k=0\/k=1\/k=2\/k=3 by omega)with rfl|rfl|rfl|rfl
 ·refine sq<|rg<|st (bi rfl rfl rfl)<|xe<|nx<|sq<|cT rfl<|sk<|nx<|sq<|bk<|sq<|rg<|st (ix (j:=0) yN xN rfl rfl (by omega))<|st (ld kZ rfl ((h.ro a0).2 0 _ rfl))<|st (sg rfl)<|xe<|nx<|rg<|st (mv rfl)<|st (mv rfl)<|st (ln gN rfl rfl)<|st (bw rfl rfl (iR (c:=((m+l1.length:Nat):Int)) (by omega) (by omega) (by omega)))<|st (sg rfl)<|xe<|bn<|nx<|rg<|st (bw rfl rfl (iR (c:=1) (by omega) (by omega) (by omega)))<|st (mv rfl)<|xe<|nx<|?_
  exact⟨((0+1),(m+l1.length)),⟨rfl,rfl,rfl,rfl,rfl,trivial⟩,⟨h,by(try dsimp only);omega,by(try dsimp only);omega⟩,by(try dsimp only);omega⟩
 ·refine sq<|rg<|st (bi rfl rfl rfl)<|xe<|nx<|sq<|cT rfl<|sk<|nx<|sq<|bk<|sq<|rg<|st (ix (j:=1) yN xN rfl rfl (by omega))<|st (ld kZ rfl ((h.ro a0).2 1 _ rfl))<|st (sg rfl)<|xe<|nx<|rg<|st (mv rfl)<|st (mv rfl)<|st (ln gN rfl rfl)<|st (bw rfl rfl (iR (c:=((m+l2.length:Nat):Int)) (by omega) (by omega) (by omega)))<|st (sg rfl)<|xe<|bn<|nx<|rg<|st (bw rfl rfl (iR (c:=2) (by omega) (by omega) (by omega)))<|st (mv rfl)<|xe<|nx<|?_
  exact⟨((1+1),(m+l2.length)),⟨rfl,rfl,rfl,rfl,rfl,trivial⟩,⟨h,by(try dsimp only);omega,by(try dsimp only);omega⟩,by(try dsimp only);omega⟩
 ·refine sq<|rg<|st (bi rfl rfl rfl)<|xe<|nx<|sq<|cT rfl<|sk<|nx<|sq<|bk<|sq<|rg<|st (ix (j:=2) yN xN rfl rfl (by omega))<|st (ld kZ rfl ((h.ro a0).2 2 _ rfl))<|st (sg rfl)<|xe<|nx<|rg<|st (mv rfl)<|st (mv rfl)<|st (ln gN rfl rfl)<|st (bw rfl rfl (iR (c:=((m+l3.length:Nat):Int)) (by omega) (by omega) (by omega)))<|st (sg rfl)<|xe<|bn<|nx<|rg<|st (bw rfl rfl (iR (c:=3) (by omega) (by omega) (by omega)))<|st (mv rfl)<|xe<|nx<|?_
  exact⟨((2+1),(m+l3.length)),⟨rfl,rfl,rfl,rfl,rfl,trivial⟩,⟨h,by(try dsimp only);omega,by(try dsimp only);omega⟩,by(try dsimp only);omega⟩
 ·refine sq<|rg<|st (bi rfl rfl rfl)<|xe<|nx<|sq<|cF rfl<|xt<|tx<|tx<|be<|nx<|sq<|rg<|st (mv rfl)<|sf (mk0 h gN sD rfl rfl (by omega) (by unfold maxLen;omega))<|?_
  rintro _ w ⟨b1,rfl,h⟩
  refine st (sg rfl)<|xe<|nx<|sq<|sq<|rg<|st (mv rfl)<|st (ln yN rfl rfl)<|st (mv rfl)<|xe<|nx<|bk<|?_
  refine lp (α:=Nat×List Int×Option Addr×Nat) (λρ=>(.c 6 (.slice ρ.2.2.1 ρ.2.1.length ρ.2.2.2) (.c 22 (.slice (some ⟨lb,0,none⟩) 3 3) (.c 23 (.int .i64 3) (.c 24 (.int .i64 (ρ.1:Int)) .n))))) (λρ w=>SH B w (aV 44 1 (.slice ρ.2.2.1 ρ.2.1.length ρ.2.2.2) ρ.2.1.length (ρ.2.1.map (Value.int .i64))::aV 40 1 (.slice (some ⟨lb,0,none⟩) 3 3) 3 ([.slice YL l1.length YT,.slice Tz l2.length Ts,.slice YO l3.length YR])::bS 1 (.slice YL l1.length YT) l1.length (l1.map (Value.int .i64))::bS 1 (.slice Tz l2.length Ts) l2.length (l2.map (Value.int .i64))::bS 1 (.slice YO l3.length YR) l3.length (l3.map (Value.int .i64))::L)/\(ρ.1<=3)/\(ρ.2.1=PB l1 l2 l3 ρ.1)) (λρ=>3-ρ.1) (0,[],some ⟨b1,0,none⟩,m) ⟨rfl,rfl,rfl,rfl,trivial⟩ ⟨h,(bZ _),rfl⟩ ?_
  rintro⟨k,out,q,cq⟩ w ⟨h,hk,hW⟩
  dsimp only at *
  rcases(show k=0\/k=1\/k=2\/k=3 by omega)with rfl|rfl|rfl|rfl
  ·refine sq<|rg<|st (bi rfl rfl rfl)<|xe<|nx<|sq<|cT rfl<|sk<|nx<|sq<|bk<|sq<|rg<|st (ix (j:=0) yN xN rfl rfl (by omega))<|st (ld kZ rfl ((h.ro a1).2 0 _ rfl))<|st (sg rfl)<|xe<|nx<|rg<|st (mv rfl)<|st (mv rfl)<|sf (ZC h a2 a0 gN rfl sD rfl (by decide) rfl rfl (λ_=>u0) (nF _) (aDn out l1) List.map_append.symm (by rw[hW];unfold maxLen PB;simp;omega) (by rw[hW];unfold PB;simp;omega))<|?_
   rintro _ w ⟨p2,c3,rfl,h⟩
   refine st (sg rfl)<|xe<|bn<|nx<|rg<|st (bw rfl rfl (iR (c:=1) (by omega) (by omega) (by omega)))<|st (mv rfl)<|xe<|nx<|?_
   exact⟨((0+1),(out++l1),p2,c3),⟨rfl,rfl,rfl,rfl,trivial⟩,⟨h,by(try dsimp only);omega,by(try dsimp only);rw[hW];rfl⟩,by(try dsimp only);omega⟩
  ·refine sq<|rg<|st (bi rfl rfl rfl)<|xe<|nx<|sq<|cT rfl<|sk<|nx<|sq<|bk<|sq<|rg<|st (ix (j:=1) yN xN rfl rfl (by omega))<|st (ld kZ rfl ((h.ro a1).2 1 _ rfl))<|st (sg rfl)<|xe<|nx<|rg<|st (mv rfl)<|st (mv rfl)<|sf (ZC h a3 a0 gN rfl sD rfl (by decide) rfl rfl (λ_=>u0) (nF _) (aDn out l2) List.map_append.symm (by rw[hW];unfold maxLen PB;simp;omega) (by rw[hW];unfold PB;simp;omega))<|?_
   rintro _ w ⟨p4,c5,rfl,h⟩
   refine st (sg rfl)<|xe<|bn<|nx<|rg<|st (bw rfl rfl (iR (c:=2) (by omega) (by omega) (by omega)))<|st (mv rfl)<|xe<|nx<|?_
   exact⟨((1+1),(out++l2),p4,c5),⟨rfl,rfl,rfl,rfl,trivial⟩,⟨h,by(try dsimp only);omega,by(try dsimp only);rw[hW];rfl⟩,by(try dsimp only);omega⟩
  ·refine sq<|rg<|st (bi rfl rfl rfl)<|xe<|nx<|sq<|cT rfl<|sk<|nx<|sq<|bk<|sq<|rg<|st (ix (j:=2) yN xN rfl rfl (by omega))<|st (ld kZ rfl ((h.ro a1).2 2 _ rfl))<|st (sg rfl)<|xe<|nx<|rg<|st (mv rfl)<|st (mv rfl)<|sf (ZC h a4 a0 gN rfl sD rfl (by decide) rfl rfl (λ_=>u0) (nF _) (aDn out l3) List.map_append.symm (by rw[hW];unfold maxLen PB;simp;omega) (by rw[hW];unfold PB;simp;omega))<|?_
   rintro _ w ⟨p6,c7,rfl,h⟩
   refine st (sg rfl)<|xe<|bn<|nx<|rg<|st (bw rfl rfl (iR (c:=3) (by omega) (by omega) (by omega)))<|st (mv rfl)<|xe<|nx<|?_
   exact⟨((2+1),(out++l3),p6,c7),⟨rfl,rfl,rfl,rfl,trivial⟩,⟨h,by(try dsimp only);omega,by(try dsimp only);rw[hW];rfl⟩,by(try dsimp only);omega⟩
  ·refine sq<|rg<|st (bi rfl rfl rfl)<|xe<|nx<|sq<|cF rfl<|xt<|tx<|tx<|be<|nx<|sq<|rg<|st (mv rfl)<|st (sg rfl)<|xe<|nx<|rt<|?_
   refine rr (mC results283 rfl)<|?_
   subst hW
   exact⟨_,_,rfl,((h.fr (.c r1 (.c r1 (.c r1 (.c r1 .n))))).drop.drop.drop.drop).fz⟩
end
variable{B w:World}{L:List As}
theorem OB(bm:Nat)(l1:List Int)(YL:Option Addr)(YT:Nat)(l2:List Int)(Tz:Option Addr)(Ts:Nat)(l3:List Int)(YO:Option Addr)(YR:Nat)(lb:Nat)(h:SH B w (aV 40 1 (.slice (some ⟨lb,0,none⟩) 3 3) 3 ([.slice YL l1.length YT,.slice Tz l2.length Ts,.slice YO l3.length YR])::bS 1 (.slice YL l1.length YT) l1.length (l1.map (Value.int .i64))::bS 1 (.slice Tz l2.length Ts) l2.length (l2.map (Value.int .i64))::bS 1 (.slice YO l3.length YR) l3.length (l3.map (Value.int .i64))::L))(YF:l1.length<=1000000)(YH:l2.length<=1000000)(hl3:l3.length<=1000000):
  Calls prog 260 #[.int .u64 (bm:Int),.slice (some ⟨lb,0,none⟩) 3 3] w λe w'=>∃q',e=.returned (.agg (aK {kind:=3,aC:=bm,aA:=l1++l2++l3} q').toArray)/\SH B w' (aL {kind:=3,aC:=bm,aA:=l1++l2++l3} q'::L):=by
 refine cN func260 ntmps260 h λw h=>?_
 refine jA h λb1 w h=>?_
 refine Zn (ER _ _ _ _ _ _ _ _ _ _ h.to (by assumption) (by assumption) (by assumption)) λq2 c3 w h=>?_
 exact rr (cD rfl rfl (h.b a1) Row.h)<|⟨⟨q2,c3,none,0⟩,rfl,SH.ofB (m:={kind:=3,aC:=bm,aA:=l1++l2++l3}) h.to rfl⟩
theorem IV(bm:Nat)(l1:List Int)(YL:Option Addr)(YT:Nat)(l2:List Int)(Tz:Option Addr)(Ts:Nat)(l3:List Int)(YO:Option Addr)(YR:Nat)(lb:Nat){ml1 ml2 ml3:Nat}(h:SH B w (aV 40 1 (.slice (some ⟨lb,0,none⟩) 3 3) 3 ([.slice YL ml1 YT,.slice Tz ml2 Ts,.slice YO ml3 YR])::bS 1 (.slice YL ml1 YT) ml1 (l1.map (Value.int .i64))::bS 1 (.slice Tz ml2 Ts) ml2 (l2.map (Value.int .i64))::bS 1 (.slice YO ml3 YR) ml3 (l3.map (Value.int .i64))::L))(el1:l1.length=ml1)(el2:l2.length=ml2)(el3:l3.length=ml3)(YF:l1.length<=1000000)(YH:l2.length<=1000000)(hl3:l3.length<=1000000):
  Calls prog 260 #[.int .u64 (bm:Int),.slice (some ⟨lb,0,none⟩) 3 3] w λe w'=>∃q',e=.returned (.agg (aK {kind:=3,aC:=bm,aA:=l1++l2++l3} q').toArray)/\SH B w' (aL {kind:=3,aC:=bm,aA:=l1++l2++l3} q'::L):=by
 subst el1 el2 el3;exact OB bm l1 YL YT l2 Tz Ts l3 YO YR lb h YF YH hl3
theorem EO{α:Type}{f:α->Value}(xs:List α)(k:Nat):(xs.map f).take (k*1)=(xs.take k).map f:=by rw[Nat.mul_one,List.map_take]
theorem SV{n:Ct.Node}(hc:n.oT=true)(i:Int):Bm.aN n.aC i<=n.aA.length:=by rw[(iJ hc).2];exact o8 _ _
theorem z'{n:Ct.Node}{i r:Int}(hc:n.oT=true)(h0:0<=i)(h1:i<64)(hr:1<=r)(hh:Bm.has n.aC i=false):(Ct.aO n i r).1={kind:=3,aC:=Bm.cR n.aC i,aA:=n.aA.take (Bm.aN n.aC i)++[r]++n.aA.drop (Bm.aN n.aC i)}:=by unfold Ct.aO;rw[if_neg (by simp[hc,hh];omega)];simp
theorem uQ(n:Ct.Node)(pb:Option Addr)(cb:Nat)(pp:Option Addr)(cp:Nat)(i r:Int)(h:SH B w (aL n (⟨pb,cb,pp,cp⟩)::L))(nf:NF n)(hc:n.oT=true)(h0:0<=i)(h1:i<64)(hr:1<=r)(hh:Bm.has n.aC i=false):
  Calls prog 270 #[.agg (aK n (⟨pb,cb,pp,cp⟩)).toArray,↑i,↑r] w λe w'=>∃q',e=.returned (.tuple #[.agg (aK (Ct.aO n i r).1 q').toArray,↑true])/\SH B w' (aL (Ct.aO n i r).1 q'::aL n ⟨pb,cb,pp,cp⟩::L):=by
 have nf_br:=nf.br
 have nf_pr:=nf.pr
 have nf_bm:=nf.bm
 have nf_hs:=nf.hs
 have nf_ks:=nf.ks
 have hpl:=SV hc i
 have hwb:=Bm.kH n.aC i nf_bm
 refine cN func270 ntmps270 h λw h=>?_
 refine jX h λb1 w h=>?_
 refine jA h λb2 w h=>?_
 refine bQ (Kg _ (⟨pb,cb,pp,cp⟩) _ h.to nf hc h0 h1) λw h=>?_
 refine cl (ca eF rfl) ((Ep n.aC i _ (by omega)).mono ?_)
 rintro _ _ ⟨rfl,rfl⟩
 refine⟨_,rfl,?_⟩
 refine st (pF rfl (cI (by omega)) rfl)<|xe<|nx<|cf rfl hh<|sk<|nx<|sq<|rg<|st (fa pE rfl)<|st (ld qD rfl (h.c a2 rfl))<|st (mv rfl)<|?_
 refine go h λw h=>?_
 refine cl (ca eF rfl) ((wX n.aC i _ (by omega)).mono ?_)
 rintro _ _ ⟨rfl,rfl⟩
 refine⟨_,rfl,?_⟩
 refine st (sg rfl)<|xe<|nx<|sq<|rg<|st (fa pE rfl)<|st (ld qD rfl (h.c a2 rfl))<|st (mv rfl)<|?_
 refine go h λw h=>?_
 refine cl (ca eF rfl) ((UI n.aC i _ (by omega)).mono ?_)
 rintro _ _ ⟨rfl,rfl⟩
 refine⟨_,rfl,?_⟩
 refine st (sg rfl)<|xe<|nx<|sq<|?_
 refine go h λw h=>?_
 have h:=SH.se (l:=[bE n (⟨pb,cb,pp,cp⟩),cP n (⟨pb,cb,pp,cp⟩)]) h
 have aFk:n.aA.length<=cb:=h.WK a0
 have h:=h.tl (k:=(Bm.aN n.aC i)) a0 (by omega)
 rw[FB]at h
 have h:=h.cut (k:=(Bm.aN n.aC i)) a1 (by omega)
 rw[EO]at h
 refine fD [1,3,5,7,9,11,15,17,19,21,12,22,24,26,28] (by kernel_rfl) h (.c r5 .n) λw h=>go h λw h=>?_
 refine tk (λW H=>slh (k:=(Bm.aN n.aC i)) gB.h Sz.h rfl rfl (by(try dsimp only);omega))<|go h λw h=>?_
 refine tk (λW H=>sll (k:=(Bm.aN n.aC i)) gB.h Sz.h rfl rfl (by(try dsimp only);omega) (by(try dsimp only);omega))<|go h λw h=>?_
 refine ff (bu [↑r] h gB.h Ss.h rfl (by kernel_rfl) rfl (by decide) (by decide)) ?_
 rintro _ w ⟨b3,rfl,h⟩
 refine gz h λw h=>?_
 refine ff (bu [.slice pb (Bm.aN n.aC i) cb,.slice (some ⟨b3,0,none⟩) 1 1,.slice (tl pb cb (Bm.aN n.aC i) 1) (n.aA.length-(Bm.aN n.aC i)) (cb-(Bm.aN n.aC i))] h gB.h Ss.h rfl (by kernel_rfl) rfl (by decide) (by decide)) ?_
 rintro _ w ⟨b4,rfl,h⟩
 refine gz h λw h=>?_
 have h:SH B w (bS 1 (.slice (some ⟨b3,0,none⟩) 1 1) 1 ([r].map (Value.int .i64))::aV 40 1 (.slice (some ⟨b4,0,none⟩) 3 3) 3 ([.slice pb (Bm.aN n.aC i) cb,.slice (some ⟨b3,0,none⟩) 1 1,.slice (tl pb cb (Bm.aN n.aC i) 1) (n.aA.length-(Bm.aN n.aC i)) (cb-(Bm.aN n.aC i))])::bS 1 (.slice pb (Bm.aN n.aC i) cb) (Bm.aN n.aC i) ((n.aA.take (Bm.aN n.aC i)).map (Value.int .i64))::bS 1 (.slice (tl pb cb (Bm.aN n.aC i) 1) (n.aA.length-(Bm.aN n.aC i)) (cb-(Bm.aN n.aC i))) (n.aA.length-(Bm.aN n.aC i)) ((n.aA.drop (Bm.aN n.aC i)).map (Value.int .i64))::bS 1 (.slice pb n.aA.length cb) n.aA.length (n.aA.map (Value.int .i64))::bS 2 (.slice pp n.aH.length cp) n.aH.length (n.aH.flatMap aR)::bl b2 ([.int .i64 0,.int .i64 0,.int .i64 0,.int .u64 0,.slice none 0 0,.int .u64 0,.string .empty,.int .u64 0,.slice none 0 0,.int .i64 0,.int .i64 0,.int .i64 0,.int .i64 0,.int .i64 0]) 53::bl b1 (aK n (⟨pb,cb,pp,cp⟩)) 53::L):=(h.fr (.c r1 .n)).fz
 refine nP (IV (Bm.cR n.aC i) (n.aA.take (Bm.aN n.aC i)) _ _ [r] _ _ (n.aA.drop (Bm.aN n.aC i)) _ _ _ h.to (by rw[lI];exact Hc (by omega)) rfl (by rw[Bp]) (by first|omega|(simp;done)|(simp;omega)) (by first|omega|(simp;done)|(simp;omega)) (by first|omega|(simp;done)|(simp;omega))) λq5 w h=>?_
 refine rr (dS rfl rfl (h.b a3) Row.h rfl) ?_
 rw[z' hc h0 h1 hr hh]
 have h:=(h.fr (.c r3 (.c r3 .n))).drop.drop
 have h:=h.fr (.c r1 (.c r1 .n))
 exact⟨q5,rfl,(SH.is (l:=[bE n ⟨pb,cb,pp,cp⟩,cP n ⟨pb,cb,pp,cp⟩]) h).fr (.c r1 .n)⟩
theorem W4{n:Ct.Node}{i r:Int}(hc:n.oT=true)(h0:0<=i)(h1:i<64)(hr:1<=r)(hh:Bm.has n.aC i=true):(Ct.aM n i r).1={kind:=3,aC:=n.aC,aA:=n.aA.take (Bm.aN n.aC i)++[r]++n.aA.drop (Bm.aN n.aC i+1)}:=by unfold Ct.aM;rw[if_neg (by simp[hc,hh];omega)];simp
theorem PM(n:Ct.Node)(pb:Option Addr)(cb:Nat)(pp:Option Addr)(cp:Nat)(i r:Int)(h:SH B w (aL n (⟨pb,cb,pp,cp⟩)::L))(nf:NF n)(hc:n.oT=true)(h0:0<=i)(h1:i<64)(hr:1<=r)(hh:Bm.has n.aC i=true):
  Calls prog 231 #[.agg (aK n (⟨pb,cb,pp,cp⟩)).toArray,↑i,↑r] w λe w'=>∃q',e=.returned (.tuple #[.agg (aK (Ct.aM n i r).1 q').toArray,↑true])/\SH B w' (aL (Ct.aM n i r).1 q'::aL n ⟨pb,cb,pp,cp⟩::L):=by
 have nf_br:=nf.br
 have nf_pr:=nf.pr
 have nf_bm:=nf.bm
 have nf_hs:=nf.hs
 have nf_ks:=nf.ks
 have hpl:=SV hc i
 have hlt:Bm.aN n.aC i<n.aA.length:=by rw[(iJ hc).2];exact Ig hh
 refine cN func231 ntmps231 h λw h=>?_
 refine jX h λb1 w h=>?_
 refine jA h λb2 w h=>?_
 refine bQ (Kg _ (⟨pb,cb,pp,cp⟩) _ h.to nf hc h0 h1) λw h=>?_
 refine cl (ca eF rfl) ((Ep n.aC i _ (by omega)).mono ?_)
 rintro _ _ ⟨rfl,rfl⟩
 refine⟨_,rfl,?_⟩
 refine gT rfl rfl (cI (by omega))<|st (nt rfl)<|st (pF rfl (cI (by omega)) rfl)<|xe<|nx<|cf rfl (tW hh)<|sk<|nx<|sq<|rg<|st (fa pE rfl)<|st (ld qD rfl (h.c a2 rfl))<|st (mv rfl)<|?_
 refine go h λw h=>?_
 refine cl (ca eF rfl) ((wX n.aC i _ (by omega)).mono ?_)
 rintro _ _ ⟨rfl,rfl⟩
 refine⟨_,rfl,?_⟩
 refine st (sg rfl)<|xe<|nx<|sq<|?_
 refine go h λw h=>?_
 have h:=SH.se (l:=[bE n (⟨pb,cb,pp,cp⟩),cP n (⟨pb,cb,pp,cp⟩)]) h
 have aFk:n.aA.length<=cb:=h.WK a0
 have h:=h.tl (k:=(Bm.aN n.aC i+1)) a0 (by omega)
 rw[FB]at h
 have h:=h.cut (k:=(Bm.aN n.aC i)) a1 (by omega)
 rw[EO]at h
 refine fD [1,3,5,7,9,11,13,17,19,21,23,25,14,26,28,30,32] (by kernel_rfl) h (.c r5 .n) λw h=>go h λw h=>?_
 refine tk (λW H=>slh (k:=(Bm.aN n.aC i)) gB.h Sz.h rfl rfl (by(try dsimp only);omega))<|go h λw h=>?_
 refine tk (λW H=>sll (k:=(Bm.aN n.aC i+1)) gB.h Sz.h rfl rfl (by(try dsimp only);omega) (by(try dsimp only);omega))<|go h λw h=>?_
 refine ff (bu [↑r] h gB.h Ss.h rfl (by kernel_rfl) rfl (by decide) (by decide)) ?_
 rintro _ w ⟨b3,rfl,h⟩
 refine gz h λw h=>?_
 refine ff (bu [.slice pb (Bm.aN n.aC i) cb,.slice (some ⟨b3,0,none⟩) 1 1,.slice (tl pb cb (Bm.aN n.aC i+1) 1) (n.aA.length-(Bm.aN n.aC i+1)) (cb-(Bm.aN n.aC i+1))] h gB.h Ss.h rfl (by kernel_rfl) rfl (by decide) (by decide)) ?_
 rintro _ w ⟨b4,rfl,h⟩
 refine gz h λw h=>?_
 have h:SH B w (bS 1 (.slice (some ⟨b3,0,none⟩) 1 1) 1 ([r].map (Value.int .i64))::aV 40 1 (.slice (some ⟨b4,0,none⟩) 3 3) 3 ([.slice pb (Bm.aN n.aC i) cb,.slice (some ⟨b3,0,none⟩) 1 1,.slice (tl pb cb (Bm.aN n.aC i+1) 1) (n.aA.length-(Bm.aN n.aC i+1)) (cb-(Bm.aN n.aC i+1))])::bS 1 (.slice pb (Bm.aN n.aC i) cb) (Bm.aN n.aC i) ((n.aA.take (Bm.aN n.aC i)).map (Value.int .i64))::bS 1 (.slice (tl pb cb (Bm.aN n.aC i+1) 1) (n.aA.length-(Bm.aN n.aC i+1)) (cb-(Bm.aN n.aC i+1))) (n.aA.length-(Bm.aN n.aC i+1)) ((n.aA.drop (Bm.aN n.aC i+1)).map (Value.int .i64))::bS 1 (.slice pb n.aA.length cb) n.aA.length (n.aA.map (Value.int .i64))::bS 2 (.slice pp n.aH.length cp) n.aH.length (n.aH.flatMap aR)::bl b2 ([.int .i64 0,.int .i64 0,.int .i64 0,.int .u64 0,.slice none 0 0,.int .u64 0,.string .empty,.int .u64 0,.slice none 0 0,.int .i64 0,.int .i64 0,.int .i64 0,.int .i64 0,.int .i64 0]) 53::bl b1 (aK n (⟨pb,cb,pp,cp⟩)) 53::L):=(h.fr (.c r1 .n)).fz
 refine nP (IV n.aC (n.aA.take (Bm.aN n.aC i)) _ _ [r] _ _ (n.aA.drop (Bm.aN n.aC i+1)) _ _ _ h.to (by rw[lI];exact Hc (by omega)) rfl (by rw[Bp]) (by first|omega|(simp;done)|(simp;omega)) (by first|omega|(simp;done)|(simp;omega)) (by first|omega|(simp;done)|(simp;omega))) λq5 w h=>?_
 refine rr (dS rfl rfl (h.b a3) Row.h rfl) ?_
 rw[W4 hc h0 h1 hr hh]
 have h:=(h.fr (.c r3 (.c r3 .n))).drop.drop
 have h:=h.fr (.c r1 (.c r1 .n))
 exact⟨q5,rfl,(SH.is (l:=[bE n ⟨pb,cb,pp,cp⟩,cP n ⟨pb,cb,pp,cp⟩]) h).fr (.c r1 .n)⟩
end Go.Q9
end
