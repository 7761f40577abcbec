/- Parts of a proof: Ayd, Nd. -/
import Derived.Test.YtnhdmcipglnkfaaGreatW19
set_option linter.unusedVariables false
set_option linter.unusedSimpArgs false
set_option maxRecDepth 100000
set_option maxHeartbeats 4000000
section
namespace Go.Q9
open Go.Proofs.Tryz
open Go.E
end Go.Q9
end
section
namespace Go.Ct
theorem PL{l:List bN}(hv:aQ l=true){k:Nat}(h1:1<=k)(hk:k<l.length):(!Op.bytesLess (l.getD (k-1) ⟨.empty,0⟩).key.toList (l.getD k ⟨.empty,0⟩).key.toList)=false:=by
 have h:=Eh l hv (k-1) k (by omega) hk
 unfold dM iE at h
 rw[h];rfl
end Go.Ct
namespace Go.Q9
open Go.Proofs.Tryz
open Go.RowKit Go.E
attribute [local irreducible] gB wpS Go.E.X XS C jU kP fin Y U F Ca jT bl rb aU bV ex ce pu sK gK bK zK gM fO dH gP nE
open Go.Ct (PL Cj BI Zu DE CR DQ CC CW BB tG nF fJ)
variable{B w:World}{L:List As}
theorem AF(l:List Int)(pa pb:Option Addr)(ca cb:Nat)(h:SH B w (bV 1 (.slice pa l.length ca) l.length (l.map (Value.int .i64))::bV 1 (.slice pb l.length cb) l.length (l.map (Value.int .i64))::L))(hl:l.length<=1000000000000):
  Calls prog 200 #[.slice pa l.length ca,.slice pb l.length cb] w λe w'=>e=.returned ↑true/\SH B w' (bV 1 (.slice pa l.length ca) l.length (l.map (Value.int .i64))::bV 1 (.slice pb l.length cb) l.length (l.map (Value.int .i64))::L):=by
 refine bZ func200 ntmps200 h λw h=>?_
 refine lp (α:=Nat) (λρ=>(.c 0 (.slice pa l.length ca) (.c 1 (.slice pb l.length cb) (.c 12 ↑(l.length:Int) (.c 13 (.int .i64 (ρ:Int)) .n))))) (λρ w=>SH B w (bV 1 (.slice pa l.length ca) l.length (l.map (Value.int .i64))::bV 1 (.slice pb l.length cb) l.length (l.map (Value.int .i64))::L)/\(ρ<=l.length)) (λρ=>l.length-ρ) 0 ⟨rfl,rfl,rfl,rfl,trivial⟩ ⟨h,dF _⟩ ?_
 rintro k w ⟨h,hk⟩
 refine go h λw h=>?_
 refine qc h (λhd1 w h=>?_) λhd1 w h=>?_
 have hg2:=eC hd1
 refine go h λw h=>?_
 obtain⟨b3,o4,rfl⟩:=h.fq a0 (by omega)
 obtain⟨b5,o6,rfl⟩:=h.fq a1 (by omega)
 refine dZ [1,3,5,7,9,11,13,15,17] (by kernel_rfl) h (.c r0 (.c r0 .n)) λw h=>?_
 refine tk (λW H=>mv rfl)<|tk (λW H=>mv rfl)<|tk (λW H=>ix (j:=k) jG Bh rfl rfl (by omega))<|tk (λW H=>ld iO rfl ((H.rr a0).i (by omega)))<|tk (λW H=>mv rfl)<|tk (λW H=>mv rfl)<|tk (λW H=>ix (j:=k) jG Bh rfl rfl (by omega))<|tk (λW H=>ld iO rfl ((H.rr a1).i (by omega)))<|tk (λW H=>bi rfl rfl rfl)<|xz<|nx<|cf rfl (uP _)<|sk<|bn<|nx<|rg<|st (bw rfl rfl (gN (c:=((k+1:Nat):Int)) (by omega) (by omega) (by omega)))<|st (mv rfl)<|xe<|nx<|?_
 refine go h λw h=>?_
 exact⟨(k+1),⟨rfl,rfl,rfl,rfl,trivial⟩,⟨h,by(try dsimp only);omega⟩,by(try dsimp only);omega⟩
 exact rz ⟨rfl,h⟩
theorem Xc(l:List Ct.bN)(pa pb:Option Addr)(ca cb:Nat)(h:SH B w (bV 2 (.slice pa l.length ca) l.length (l.flatMap aR)::bV 2 (.slice pb l.length cb) l.length (l.flatMap aR)::L))(hl:l.length<=1000000000000):
  Calls prog 201 #[.slice pa l.length ca,.slice pb l.length cb] w λe w'=>e=.returned ↑true/\SH B w' (bV 2 (.slice pa l.length ca) l.length (l.flatMap aR)::bV 2 (.slice pb l.length cb) l.length (l.flatMap aR)::L):=by
 refine bZ func201 ntmps201 h λw h=>?_
 refine lp (α:=Nat) (λρ=>(.c 0 (.slice pa l.length ca) (.c 1 (.slice pb l.length cb) (.c 12 ↑(l.length:Int) (.c 13 (.int .i64 (ρ:Int)) .n))))) (λρ w=>SH B w (bV 2 (.slice pa l.length ca) l.length (l.flatMap aR)::bV 2 (.slice pb l.length cb) l.length (l.flatMap aR)::L)/\(ρ<=l.length)) (λρ=>l.length-ρ) 0 ⟨rfl,rfl,rfl,rfl,trivial⟩ ⟨h,dF _⟩ ?_
 rintro k w ⟨h,hk⟩
 refine go h λw h=>?_
 refine qc h (λhd1 w h=>?_) λhd1 w h=>?_
 have hg2:=eC hd1
 refine go h λw h=>?_
 obtain⟨b3,o4,rfl⟩:=h.fq a0 (by omega)
 obtain⟨b5,o6,rfl⟩:=h.fq a1 (by omega)
 refine dZ [1,3,5,7,9,11,13,15,17] (by kernel_rfl) h (.c r0 (.c r0 .n)) λw h=>go h λw h=>?_
 refine tk (λW H=>gJ rfl ((H.rr a0).x bH (by decide) (by omega) ⟨.empty,0⟩) Row.h)<|go h λw h=>?_
 refine tk (λW H=>gJ rfl ((H.rr a1).x bH (by decide) (by omega) ⟨.empty,0⟩) Row.h)<|tk (λW H=>i3 ZL rfl rfl rfl rfl)<|go h λw h=>?_
 refine cf rfl (UT (UY _ _ _))<|go h λw h=>?_
 exact⟨(k+1),⟨rfl,rfl,rfl,rfl,trivial⟩,⟨h,by(try dsimp only);omega⟩,by(try dsimp only);omega⟩
 exact rz ⟨rfl,h⟩
theorem oF(l:List Ct.bN)(p:Option Addr)(c:Nat)(h:SH B w (bV 2 (.slice p l.length c) l.length (l.flatMap aR)::L))(hv:Ct.aQ l=true)(hl:l.length<=1000000000000):
  Calls prog 162 #[.slice p l.length c] w λe w'=>e=.returned ↑true/\SH B w' (bV 2 (.slice p l.length c) l.length (l.flatMap aR)::L):=by
 refine bZ func162 ntmps162 h λw h=>?_
 refine lp (α:=Nat) (λρ=>(.c 0 (.slice p l.length c) (.c 3 (.int .i64 (ρ:Int)) .n))) (λρ w=>SH B w (bV 2 (.slice p l.length c) l.length (l.flatMap aR)::L)/\(1<=ρ)) (λρ=>l.length-ρ) 1 ⟨rfl,rfl,trivial⟩ ⟨h,JV _⟩ ?_
 rintro k w ⟨h,h1⟩
 refine go h λw h=>?_
 refine qc h (λhd1 w h=>?_) λhd1 w h=>?_
 ·have hg2:=eC hd1
  refine go h λw h=>?_
  obtain⟨b3,o4,rfl⟩:=h.fq a0 (by omega)
  refine dZ [1,3,5,7,9,11,13,15,17,19,21,23] (by kernel_rfl) h (.c r0 .n) λw h=>go h λw h=>?_
  refine tk (λW H=>bs ((k-1:Nat):Int))<|go h λw h=>?_
  refine tk (λW H=>ld One.h rfl ((H.rr a0).x bH (by decide) (by omega) ⟨.empty,0⟩ 0 _ rfl))<|go h λw h=>?_
  refine tk (λW H=>ld One.h rfl ((H.rr a0).x bH (by decide) (by omega) ⟨.empty,0⟩ 0 _ rfl))<|go h λw h=>?_
  refine cf rfl (PL hv h1 (by omega))<|go h λw h=>?_
  exact⟨(k+1),⟨rfl,rfl,trivial⟩,⟨h,by(try dsimp only);omega⟩,by(try dsimp only);omega⟩
 ·exact rz ⟨rfl,h⟩
section
attribute [local semireducible] gB wpS Go.E.X XS C jU kP fin Y U F Ca jT bl rb aU bV ex ce pu sK gK bK zK gM fO dH gP nE
attribute [local irreducible] gB wpS
variable{B w:World}{L:List As}
theorem KT(l:List Ct.bN)(p:Option Addr)(c:Nat)(h:SH B w (bV 2 (.slice p l.length c) l.length (l.flatMap aR)::L))(hs:Ct.kS l=true)(hl:l.length<=1000000000000):
  Calls prog 163 #[.slice p l.length c] w λe w'=>e=.returned ↑true/\SH B w' (bV 2 (.slice p l.length c) l.length (l.flatMap aR)::L):=by
 refine Ea (args:=[_]) func163 rfl ntmps163 rfl ?_
 refine sq<|rg<|st (sg rfl)<|xe<|nx<|sq<|sq<|rg<|st (mv rfl)<|st (ln Bi rfl rfl)<|st (mv rfl)<|xe<|nx<|bk<|?_
 refine lp (α:=Nat) (λρ=>(.c 5 (.slice p l.length c) (.c 6 ↑(l.length:Int) (.c 7 (.int .i64 (ρ:Int)) .n)))) (λρ w=>SH B w (bV 2 (.slice p l.length c) l.length (l.flatMap aR)::L)/\(ρ<=l.length)) (λρ=>l.length-ρ) 0 ⟨rfl,rfl,rfl,trivial⟩ ⟨h,dF _⟩ ?_
 rintro k w ⟨h,hk⟩
 refine sq<|rg<|st (bi rfl rfl rfl)<|xe<|nx<|sq<|?_
 rcases dA (decide (((k:Int):Int)<(l.length:Int)))with hd1|hd1
 ·have hg2:=eC hd1
  refine ct rfl hd1<|sk<|nx<|sq<|bk<|sq<|rg<|?_
  obtain⟨b3,o4,rfl⟩:=h.fq a0 (by omega)
  refine st (ix (j:=k) Bi xO rfl rfl (by omega))<|st (gJ rfl ((h.rr a0).x bH (by decide) (by omega) ⟨.empty,0⟩) Ak)<|sf (al h QB)<|?_
  rintro _ w ⟨b5,rfl,h⟩
  refine sf (so h rfl rfl rfl xO rfl (.r (.r .d)) u0)<|?_
  rintro _ w h
  refine xe<|nx<|sq<|rg<|st (fa KN rfl)<|st (ld uK rfl (h.c a0 rfl))<|st (PA NZ rfl rfl)<|st (bi rfl rfl rfl)<|xe<|nx<|cf rfl (Cj hs (by omega))<|sk<|bn<|nx<|rg<|st (bw rfl rfl (gN (c:=((k+1:Nat):Int)) (by omega) (by omega) (by omega)))<|st (mv rfl)<|xe<|nx<|?_
  exact⟨(k+1),⟨rfl,rfl,rfl,trivial⟩,⟨h.drop,by(try dsimp only);omega⟩,by(try dsimp only);omega⟩
 ·refine cf rfl hd1<|xt<|tx<|tx<|be<|nx<|sq<|rg<|st (sg rfl)<|xe<|nx<|rt<|?_
  refine rr (jP results163 rfl)<|⟨rfl,h⟩
end
variable{B w:World}{L:List As}
theorem Qx(l:List Int)(p:Option Addr)(c:Nat)(h:SH B w (bV 1 (.slice p l.length c) l.length (l.map (Value.int .i64))::L))(hp:∀k,k<l.length->1<=l.getD k 0)(hl:l.length<=1000000000000):
  Calls prog 161 #[.slice p l.length c] w λe w'=>e=.returned ↑true/\SH B w' (bV 1 (.slice p l.length c) l.length (l.map (Value.int .i64))::L):=by
 refine bZ func161 ntmps161 h λw h=>?_
 refine lp (α:=Nat) (λρ=>(.c 5 (.slice p l.length c) (.c 6 ↑(l.length:Int) (.c 7 (.int .i64 (ρ:Int)) .n)))) (λρ w=>SH B w (bV 1 (.slice p l.length c) l.length (l.map (Value.int .i64))::L)/\(ρ<=l.length)) (λρ=>l.length-ρ) 0 ⟨rfl,rfl,rfl,trivial⟩ ⟨h,dF _⟩ ?_
 rintro k w ⟨h,hk⟩
 refine go h λw h=>?_
 refine qc h (λhd1 w h=>?_) λhd1 w h=>?_
 have hg2:=eC hd1
 refine go h λw h=>?_
 obtain⟨b3,o4,rfl⟩:=h.fq a0 (by omega)
 refine go h λw h=>?_
 refine cf rfl (Ab (by have:=hp k (by omega);omega))<|go h λw h=>?_
 exact⟨(k+1),⟨rfl,rfl,rfl,trivial⟩,⟨h,by(try dsimp only);omega⟩,by(try dsimp only);omega⟩
 have hg5:=cW hd1
 refine go h λw h=>?_
 exact rz ⟨rfl,h⟩
theorem SX(n:Ct.Node)(q:Lq)(h:SH B w (aM n q::L))(hk:1<=n.kind/\n.kind<=8):
  Calls prog 159 #[.agg (aL n q).toArray] w λe w'=>∃q',e=.returned (.agg (aL n.only q').toArray)/\SH B w' (aM n.only q'::aM n q::L):=by
 refine bZ func159 ntmps159 h λw h=>?_
 refine jX h λb1 w h=>?_
 refine jA h λb2 w h=>?_
 refine jA h λb3 w h=>?_
 refine qc h (λhd4 w h=>?_) λhd4 w h=>?_
 have hg5:=eq_of_beq hd4
 refine go h λw h=>?_
 refine dZ [1,3,5,7,9,10,13,14] (by kernel_rfl) h (.c r2 .n) λw h=>go h λw h=>?_
 refine rr (bP rfl rfl (h.b a1) Row.h) ?_
 have e1:=Zu n (by have:=eq_of_beq hd4;omega)
 exact⟨{},by unfold aL;rw[e1];rfl,SH.Zq h.drop.drop.drop .z (.inr ⟨by rw[e1],rfl,rfl⟩) (.inr ⟨by rw[e1],rfl,rfl⟩)⟩
 have hg6:=dP hd4
 refine go h λw h=>?_
 refine qc h (λhd7 w h=>?_) λhd7 w h=>?_
 have hg8:=eq_of_beq hd7
 refine go h λw h=>?_
 refine dZ [1,3,5,7,9,11,13,14,17,18,21,22] (by kernel_rfl) h (.c r2 .n) λw h=>go h λw h=>?_
 refine rr (bP rfl rfl (h.b a1) Row.h) ?_
 have e1:=DE n (by have:=dP hd4;have:=eq_of_beq hd7;omega)
 exact⟨⟨q.pb,q.cb,none,0⟩,by unfold aL;rw[e1];rfl,SH.Zq h.drop.drop.drop .z (.inl ⟨by rw[e1],rfl,rfl⟩) (.inr ⟨by rw[e1],rfl,rfl⟩)⟩
 have hg9:=dP hd7
 refine go h λw h=>?_
 refine qc h (λhd10 w h=>?_) λhd10 w h=>?_
 have hg11:=eq_of_beq hd10
 refine go h λw h=>?_
 refine dZ [1,3,5,7,9,11,13,14,17,18,21,22] (by kernel_rfl) h (.c r2 .n) λw h=>go h λw h=>?_
 refine rr (bP rfl rfl (h.b a1) Row.h) ?_
 have e1:=DQ n (by have:=dP hd4;have:=dP hd7;have:=eq_of_beq hd10;omega)
 exact⟨{},by unfold aL;rw[e1];rfl,SH.Zq h.drop.drop.drop .z (.inr ⟨by rw[e1],rfl,rfl⟩) (.inr ⟨by rw[e1],rfl,rfl⟩)⟩
 have hg12:=dP hd10
 refine go h λw h=>?_
 refine qc h (λhd13 w h=>?_) λhd13 w h=>?_
 have hg14:=eq_of_beq hd13
 refine go h λw h=>?_
 refine dZ [1,3,5,7,9,11,13,14,17,18,21,22] (by kernel_rfl) h (.c r2 .n) λw h=>go h λw h=>?_
 refine rr (bP rfl rfl (h.b a1) Row.h) ?_
 have e1:=CR n (by have:=dP hd4;have:=dP hd7;have:=dP hd10;have:=eq_of_beq hd13;omega)
 exact⟨{},by unfold aL;rw[e1];rfl,SH.Zq h.drop.drop.drop .z (.inr ⟨by rw[e1],rfl,rfl⟩) (.inr ⟨by rw[e1],rfl,rfl⟩)⟩
 have hg15:=dP hd13
 refine go h λw h=>?_
 refine qc h (λhd16 w h=>?_) λhd16 w h=>?_
 have hg17:=eq_of_beq hd16
 refine go h λw h=>?_
 refine dZ [1,3,5,7,9,11,13,14,17,18,21,22] (by kernel_rfl) h (.c r2 .n) λw h=>go h λw h=>?_
 refine rr (bP rfl rfl (h.b a1) Row.h) ?_
 have e1:=CC n (by have:=dP hd4;have:=dP hd7;have:=dP hd10;have:=dP hd13;have:=eq_of_beq hd16;omega)
 exact⟨⟨none,0,q.pp,q.cp⟩,by unfold aL;rw[e1];rfl,SH.Zq h.drop.drop.drop .z (.inr ⟨by rw[e1],rfl,rfl⟩) (.inl ⟨by rw[e1],rfl,rfl⟩)⟩
 have hg18:=dP hd16
 refine go h λw h=>?_
 refine qc h (λhd19 w h=>?_) λhd19 w h=>?_
 have hg20:=eq_of_beq hd19
 refine go h λw h=>?_
 refine dZ [1,3,5,7,9,11,13,14,17,18,21,22] (by kernel_rfl) h (.c r2 .n) λw h=>go h λw h=>?_
 refine rr (bP rfl rfl (h.b a1) Row.h) ?_
 have e1:=BB n (by have:=dP hd4;have:=dP hd7;have:=dP hd10;have:=dP hd13;have:=dP hd16;have:=eq_of_beq hd19;omega)
 exact⟨{},by unfold aL;rw[e1];rfl,SH.Zq h.drop.drop.drop .z (.inr ⟨by rw[e1],rfl,rfl⟩) (.inr ⟨by rw[e1],rfl,rfl⟩)⟩
 have hg21:=dP hd19
 refine go h λw h=>?_
 refine qc h (λhd22 w h=>?_) λhd22 w h=>?_
 have hg23:=eq_of_beq hd22
 refine go h λw h=>?_
 refine rr (bP rfl rfl (h.b a1) Row.h) ?_
 have e1:=CW n (by have:=dP hd4;have:=dP hd7;have:=dP hd10;have:=dP hd13;have:=dP hd16;have:=dP hd19;have:=eq_of_beq hd22;omega)
 exact⟨{},by unfold aL;rw[e1];rfl,SH.Zq h.drop.drop.drop .z (.inr ⟨by rw[e1],rfl,rfl⟩) (.inr ⟨by rw[e1],rfl,rfl⟩)⟩
 have hg24:=dP hd22
 refine go h λw h=>?_
 refine rr (bP rfl rfl (h.b a1) Row.h) ?_
 have e1:=BI n (by have:=dP hd4;have:=dP hd7;have:=dP hd10;have:=dP hd13;have:=dP hd16;have:=dP hd19;have:=dP hd22;omega)
 exact⟨{},by unfold aL;rw[e1];rfl,SH.Zq h.drop.drop.drop .z (.inr ⟨by rw[e1],rfl,rfl⟩) (.inr ⟨by rw[e1],rfl,rfl⟩)⟩
theorem ZD(n:Ct.Node)(q:Lq)(hv:n.valid=true)(h:SH B w (aM n q::L)):
  Calls prog 159 #[.agg (aL n q).toArray] w λe w'=>∃q',e=.returned (.agg (aL n q').toArray)/\SH B w' (aM n q'::aM n q::L):=by
 have e1:=tG hv
 refine(SX n q h (nF hv)).mono λe w'=>?_
 rw[<- e1];exact id
theorem AE(n:Ct.Node)(q1 q2:Lq)(h:SH B w (aM n q1::aM n q2::L))(hb:n.aA.length<=1000000000000)(hp:n.aF.length<=1000000000000):
  Calls prog 158 #[.agg (aL n q1).toArray,.agg (aL n q2).toArray] w λe w'=>e=.returned ↑true/\SH B w' (aM n q1::aM n q2::L):=by
 refine bZ func158 ntmps158 h λw h=>?_
 refine jX h λb1 w h=>?_
 refine jX h λb2 w h=>?_
 have h:=h.fr (.c r2 .n)
 have h:=SH.se (l:=[aY n q1,cH n q1]) h
 have h:=h.fr (.c r4 .n)
 have h:=SH.se (l:=[aY n q2,cH n q2]) h
 refine go h λw h=>?_
 refine bA (AF _ _ _ _ _ h.to (by omega)) λw h=>?_
 refine bA (Xc _ _ _ _ _ h.to (by omega)) λw h=>?_
 refine rz ?_
 have h:=((h.fr (.c r4 (.c r4 .n))).drop.drop.fr (.c r3 (.c r1 (.c r1 (.c r0 .n)))))
 have h:=SH.is (l:=[aY n q2,cH n q2]) h
 have h:=h.fr (.c r1 (.c r1 .n))
 exact⟨by rw[(wZ _)],SH.is (l:=[aY n q1,cH n q1]) h⟩
section
attribute [local semireducible] gB wpS Go.E.X XS C jU kP fin Y U F Ca jT bl rb aU bV ex ce pu sK gK bK zK gM fO dH gP nE
attribute [local irreducible] gB wpS
variable{B w:World}{L:List As}
theorem xX(n:Ct.Node)(pb:Option Addr)(cb:Nat)(pp:Option Addr)(cp:Nat)(h:SH B w (aM n (⟨pb,cb,pp,cp⟩)::L))(hv:n.valid=true)(hb:n.aA.length<=1000000)(hp:n.aF.length<=1000000000000)(hm:n.aD<18446744073709551616):
  Calls prog 104 #[.agg (aL n (⟨pb,cb,pp,cp⟩)).toArray] w λe w'=>e=.returned ↑true/\SH B w' (aM n ⟨pb,cb,pp,cp⟩::L):=by
 have vf:=fJ hv
 have vf_kind:=vf.kind
 have vf_main:=vf.main
 have vf_prev:=vf.prev
 have vf_status:=vf.status
 have vf_gen:=vf.gen
 have vf_key:=vf.key
 have vf_pairs:=vf.aF
 have vf_old:=vf.dC
 have vf_desc:=vf.desc
 have hk1:=nF hv
 refine Ea (args:=[_]) func104 rfl ntmps104 rfl ?_
 refine sq<|rg<|sf (bx h rfl rfl)<|?_
 rintro _ w ⟨b1,rfl,h⟩
 refine st (sg rfl)<|xe<|nx<|sq<|sq<|dZ [1,3,4,6,9] (by kernel_rfl) h (.c r0 .n) λw h=>tk (λW H=>gJ rfl (dK (H.b a0)) iR)<|tk (λW H=>gJ rfl (dK (H.b a0)) iR)<|cs (ca eF rfl) ((ZD n (⟨pb,cb,pp,cp⟩) hv (h.fr (.c r1 .n))).mono ?_)
 rintro _ w ⟨q2,rfl,h⟩
 refine⟨_,rfl,h.hs (.c r2 .n),?_⟩
 refine cs (ca eF rfl) ((AE n _ _ (h.fr (.c r1 (.c r0 .n))) (by omega) (by omega)).mono ?_)
 rintro _ w ⟨rfl,h⟩
 refine⟨_,rfl,h.hs (.c r2 .n),?_⟩
 refine tk (λW H=>nt rfl)<|xz<|nx<|cF rfl<|sk<|nx<|sq<|sq<|?_
 have h:SH B w (bV 1 (.slice pb n.aA.length cb) n.aA.length (n.aA.map (Value.int .i64))::bV 2 (.slice pp n.aF.length cp) n.aF.length (n.aF.flatMap aR)::aM n q2::bl b1 (aL n (⟨pb,cb,pp,cp⟩)) 53::L):=SH.se (l:=[aY n (⟨pb,cb,pp,cp⟩),cH n (⟨pb,cb,pp,cp⟩)]) h
 refine rg<|st (fa Eo rfl)<|st (ld Bv rfl (h.c a3 rfl))<|st (bi rfl rfl rfl)<|st (mv rfl)<|gT rfl rfl (Ab (by omega))<|st (fa xG rfl)<|gT rfl rfl (Ab (by omega))<|st (ld Bv rfl (h.c a3 rfl))<|gT rfl rfl (Ab (by omega))<|st (bi rfl rfl rfl)<|st (pF rfl (Ab (by omega)) rfl)<|st (mv rfl)<|gT rfl rfl (Ab (by omega))<|st (fa xY rfl)<|gT rfl rfl (Ab (by omega))<|st (ld Bv rfl (h.c a3 rfl))<|gT rfl rfl (Ab (by omega))<|st (bi rfl rfl rfl)<|st (pF rfl (Ab (by omega)) rfl)<|xe<|nx<|cf rfl (Ab (by omega))<|sk<|nx<|sq<|sq<|rg<|st (fa nN rfl)<|st (ld jE rfl (h.c a3 rfl))<|xe<|nx<|bk<|sq<|bk<|sq<|bk<|sq<|bk<|sq<|bk<|bk<|sq<|bk<|sq<|bk<|sq<|bk<|sq<|sq<|sq<|rg<|st (bi rfl rfl rfl)<|st (sg rfl)<|xe<|nx<|?_
 rcases dA ((n.kind:Int)==1)with hd3|hd3
 ·have hg4:=eq_of_beq hd3
  refine ct rfl hd3<|xt<|tx<|tx<|be<|nx<|sq<|sq<|rg<|st (sg rfl)<|xe<|nx<|rt<|tr<|bt<|tr<|bt<|tr<|bt<|bt<|tr<|bt<|tr<|bt<|tr<|bt<|tr<|bt<|tr<|?_
  refine rr (jP results104 rfl)<|?_
  exact⟨rfl,SH.is (l:=[aY n ⟨pb,cb,pp,cp⟩,cH n ⟨pb,cb,pp,cp⟩]) (h.fr (.c r2 (.c r2 .n))).drop.drop⟩
 ·have hg5:=dP hd3
  refine cf rfl hd3<|sk<|nx<|sq<|sq<|rg<|st (bi rfl rfl rfl)<|st (sg rfl)<|xe<|nx<|?_
  rcases dA ((n.kind:Int)==2)with hd6|hd6
  ·have hg7:=eq_of_beq hd6
   refine ct rfl hd6<|xt<|tx<|tx<|bo rfl<|tx<|be<|nx<|sq<|sq<|rg<|st (fa xL rfl)<|st (ld jE rfl (h.c a3 rfl))<|st (bi rfl rfl rfl)<|st (sg rfl)<|xe<|nx<|rt<|tr<|bt<|tr<|bt<|bt<|tr<|bt<|tr<|bt<|tr<|bt<|tr<|bt<|tr<|?_
   refine rr (jP results104 rfl)<|?_
   exact⟨by rw[show (decide ((n.gen:Int)>=1))=true from mI (by omega)],SH.is (l:=[aY n ⟨pb,cb,pp,cp⟩,cH n ⟨pb,cb,pp,cp⟩]) (h.fr (.c r2 (.c r2 .n))).drop.drop⟩
  ·have hg8:=dP hd6
   refine cf rfl hd6<|sk<|nx<|sq<|sq<|rg<|st (bi rfl rfl rfl)<|st (sg rfl)<|xe<|nx<|?_
   rcases dA ((n.kind:Int)==3)with hd9|hd9
   ·have hg10:=eq_of_beq hd9
    refine ct rfl hd9<|xt<|tx<|tx<|bo rfl<|tx<|bo rfl<|tx<|be<|nx<|sq<|sq<|dZ [1,3,5,7,9,10,13,15,17,19,20,23,24] (by kernel_rfl) h (.c r3 .n) λw h=>tk (λW H=>fa nL rfl)<|tk (λW H=>ld pK rfl (H.c a0 rfl))<|tk (λW H=>ln jG rfl rfl)<|tk (λW H=>fa tM rfl)<|tk (λW H=>ld vV rfl (H.c a0 rfl))<|cs (ca eF rfl) ((De n.aD (by omega) _).mono ?_)
    rintro _ _ ⟨rfl,rfl⟩
    refine⟨_,rfl,h.hs (.c r3 .n),?_⟩
    refine tk (λW H=>bi rfl rfl rfl)<|tk (λW H=>mv rfl)<|oX rfl rfl (beq_iff_eq.2 (by have:=vf.count (by omega);omega))<|tk (λW H=>fa nL rfl)<|oX rfl rfl (beq_iff_eq.2 (by have:=vf.count (by omega);omega))<|tk (λW H=>ld pK rfl (H.c a0 rfl))<|oX rfl rfl (beq_iff_eq.2 (by have:=vf.count (by omega);omega))<|cs (ca eF rfl) ((Qx n.aA _ _ (h.fr (.c r0 .n)) (vf.branch (by omega)) (by omega)).mono ?_)
    rintro _ w ⟨rfl,h⟩
    refine⟨_,rfl,h.hs (.c r3 .n),?_⟩
    refine tk (λW H=>pT rfl (beq_iff_eq.2 (by have:=vf.count (by omega);omega)) rfl)<|ef (sg rfl) (h.hs (.c r3 .n))<|xz<|nx<|rt<|tr<|bt<|bt<|tr<|bt<|tr<|bt<|tr<|bt<|tr<|bt<|tr<|?_
    refine rr (jP results104 rfl)<|?_
    exact⟨rfl,SH.is (l:=[aY n ⟨pb,cb,pp,cp⟩,cH n ⟨pb,cb,pp,cp⟩]) (h.fr (.c r2 (.c r2 .n))).drop.drop⟩
   ·have hg11:=dP hd9
    refine cf rfl hd9<|sk<|nx<|sq<|sq<|rg<|st (bi rfl rfl rfl)<|st (sg rfl)<|xe<|nx<|?_
    rcases dA ((n.kind:Int)==4)with hd12|hd12
    ·have hg13:=eq_of_beq hd12
     refine ct rfl hd12<|xt<|tx<|tx<|bo rfl<|tx<|bo rfl<|tx<|bo rfl<|tx<|be<|bn<|nx<|sq<|sq<|rg<|st (fa Ep rfl)<|st (ld uK rfl (h.c a3 rfl))<|st (PA NZ rfl rfl)<|st (bi rfl rfl rfl)<|st (sg rfl)<|xe<|nx<|rt<|tr<|bt<|tr<|bt<|tr<|bt<|tr<|bt<|tr<|?_
     refine rr (jP results104 rfl)<|?_
     exact⟨by rw[show (decide (((n.key.size:Int):Int)<=64))=true from mI (by omega)],SH.is (l:=[aY n ⟨pb,cb,pp,cp⟩,cH n ⟨pb,cb,pp,cp⟩]) (h.fr (.c r2 (.c r2 .n))).drop.drop⟩
    ·have hg14:=dP hd12
     refine cf rfl hd12<|sk<|nx<|sq<|sq<|rg<|st (bi rfl rfl rfl)<|st (sg rfl)<|xe<|nx<|?_
     rcases dA ((n.kind:Int)==5)with hd15|hd15
     ·have hg16:=eq_of_beq hd15
      refine ct rfl hd15<|xt<|tx<|tx<|bo rfl<|tx<|bo rfl<|tx<|bo rfl<|tx<|bo rfl<|be<|nx<|sq<|sq<|rg<|st (fa Ep rfl)<|st (ld uK rfl (h.c a3 rfl))<|st (PA NZ rfl rfl)<|st (bi rfl rfl rfl)<|st (sg rfl)<|xe<|nx<|rt<|tr<|bt<|tr<|bt<|tr<|bt<|tr<|bt<|tr<|?_
      refine rr (jP results104 rfl)<|?_
      exact⟨by rw[show (decide (((n.key.size:Int):Int)<=64))=true from mI (by omega)],SH.is (l:=[aY n ⟨pb,cb,pp,cp⟩,cH n ⟨pb,cb,pp,cp⟩]) (h.fr (.c r2 (.c r2 .n))).drop.drop⟩
     ·have hg17:=dP hd15
      refine cf rfl hd15<|sk<|nx<|sq<|sq<|rg<|st (bi rfl rfl rfl)<|st (sg rfl)<|xe<|nx<|?_
      rcases dA ((n.kind:Int)==6)with hd18|hd18
      ·have hg19:=eq_of_beq hd18
       refine ct rfl hd18<|xt<|tx<|tx<|bo rfl<|tx<|bo rfl<|tx<|bo rfl<|tx<|bo rfl<|bo rfl<|tx<|be<|nx<|sq<|sq<|rg<|st (fa qD rfl)<|st (ld qV rfl (h.c a3 rfl))<|st (ln Bi rfl rfl)<|st (bi rfl rfl rfl)<|st (mv rfl)<|gT rfl rfl (mI (by omega))<|st (fa qD rfl)<|gT rfl rfl (mI (by omega))<|st (ld qV rfl (h.c a3 rfl))<|gT rfl rfl (mI (by omega))<|cl (ca eF rfl) ((oF n.aF _ _ (h.fr (.c r1 .n)) (vf.kG (by omega)) (by omega)).mono ?_)
       rintro _ w ⟨rfl,h⟩
       refine⟨_,rfl,?_⟩
       refine st (pT rfl (mI (by omega)) rfl)<|st (mv rfl)<|gT rfl rfl rfl<|st (fa qD rfl)<|gT rfl rfl rfl<|st (ld qV rfl (h.c a3 rfl))<|gT rfl rfl rfl<|cl (ca eF rfl) ((KT n.aF _ _ (h.fr (.c r0 .n)) (vf.short (by omega)) (by omega)).mono ?_)
       rintro _ w ⟨rfl,h⟩
       refine⟨_,rfl,?_⟩
       refine st (pT rfl rfl rfl)<|st (sg rfl)<|xe<|nx<|rt<|tr<|bt<|tr<|bt<|tr<|bt<|tr<|?_
       refine rr (jP results104 rfl)<|?_
       exact⟨rfl,SH.is (l:=[aY n ⟨pb,cb,pp,cp⟩,cH n ⟨pb,cb,pp,cp⟩]) ((h.fr (.c r2 (.c r2 .n))).drop.drop.fr (.c r1 (.c r0 .n)))⟩
      ·have hg20:=dP hd18
       refine cf rfl hd18<|sk<|nx<|sq<|sq<|rg<|st (bi rfl rfl rfl)<|st (sg rfl)<|xe<|nx<|?_
       rcases dA ((n.kind:Int)==8)with hd21|hd21
       ·have hg22:=eq_of_beq hd21
        refine ct rfl hd21<|xt<|tx<|tx<|bo rfl<|tx<|bo rfl<|tx<|bo rfl<|tx<|bo rfl<|bo rfl<|tx<|bo rfl<|tx<|be<|nx<|sq<|rg<|st (fa JP rfl)<|st (ld iO rfl (h.c a3 rfl))<|st (bi rfl rfl rfl)<|st (mv rfl)<|gT rfl rfl (Ab (by omega))<|st (fa HV rfl)<|gT rfl rfl (Ab (by omega))<|st (ld iO rfl (h.c a3 rfl))<|gT rfl rfl (Ab (by omega))<|st (bi rfl rfl rfl)<|st (pF rfl (Ab (by omega)) rfl)<|xe<|nx<|cf rfl (Ab (by omega))<|sk<|bn<|nx<|sq<|sq<|rg<|st (fa Ib rfl)<|st (ld iO rfl (h.c a3 rfl))<|st (bi rfl rfl rfl)<|st (sg rfl)<|xe<|nx<|rt<|tr<|bt<|tr<|?_
        refine rr (jP results104 rfl)<|?_
        exact⟨by rw[show (decide ((n.dC:Int)>=1))=true from mI (by omega)],SH.is (l:=[aY n ⟨pb,cb,pp,cp⟩,cH n ⟨pb,cb,pp,cp⟩]) (h.fr (.c r2 (.c r2 .n))).drop.drop⟩
       ·have hg23:=dP hd21
        refine cf rfl hd21<|sk<|nx<|sq<|rg<|st (bi rfl rfl rfl)<|st (sg rfl)<|xe<|nx<|?_
        rcases dA ((n.kind:Int)==7)with hd24|hd24
        ·have hg25:=eq_of_beq hd24
         refine ct rfl hd24<|xt<|tx<|bo rfl<|tx<|bo rfl<|tx<|bo rfl<|tx<|bo rfl<|bo rfl<|tx<|bo rfl<|tx<|bo rfl<|tx<|be<|nx<|sq<|sq<|rg<|st (fa Ib rfl)<|st (ld iO rfl (h.c a3 rfl))<|st (bi rfl rfl rfl)<|st (sg rfl)<|xe<|nx<|rt<|tr<|bt<|tr<|?_
         refine rr (jP results104 rfl)<|?_
         exact⟨by rw[show (decide ((n.dC:Int)>=1))=true from mI (by omega)],SH.is (l:=[aY n ⟨pb,cb,pp,cp⟩,cH n ⟨pb,cb,pp,cp⟩]) (h.fr (.c r2 (.c r2 .n))).drop.drop⟩
        ·have hg26:=dP hd24
         refine cf rfl hd24<|sk<|nx<|xt<|bo rfl<|tx<|bo rfl<|tx<|bo rfl<|tx<|bo rfl<|bo rfl<|tx<|bo rfl<|tx<|bo rfl<|tx<|bo rfl<|tx<|be<|nx<|sq<|rg<|st (sg rfl)<|xe<|nx<|rt<|?_
         refine rr (jP results104 rfl)<|?_
         exact absurd hk1 (by have:=dP hd3;have:=dP hd6;have:=dP hd9;have:=dP hd12;have:=dP hd15;have:=dP hd18;have:=dP hd21;have:=dP hd24;omega)
end
end Go.Q9
end
