/- Parts of a proof: Rz. -/
import Derived.Test.YtnhdmcipglnkfaaGreatW18
set_option linter.unusedVariables false
set_option linter.unusedSimpArgs false
set_option maxRecDepth 100000
set_option maxHeartbeats 4000000
section
namespace Go.Ct
theorem LL(n:Node)(h:n.kind=1):n.only={kind:=n.kind}:=by unfold Node.only;rw[if_pos h]
theorem PI(n:Node)(h:n.kind=2):n.only={kind:=n.kind,gen:=n.gen,main:=n.main}:=by unfold Node.only;rw[if_neg (by omega),if_pos h]
theorem LA(n:Node)(h:n.kind=3):n.only={kind:=n.kind,aC:=n.aC,aA:=n.aA,prev:=n.prev}:=by unfold Node.only;rw[if_neg (by omega),if_neg (by omega),if_pos h]
theorem PS(n:Node)(h:n.kind=4):n.only={kind:=n.kind,hash:=n.hash,key:=n.key,value:=n.value}:=by unfold Node.only;rw[if_neg (by omega),if_neg (by omega),if_neg (by omega),if_pos h]
theorem NY(n:Node)(h:n.kind=5):n.only={kind:=n.kind,hash:=n.hash,key:=n.key,value:=n.value,prev:=n.prev}:=by unfold Node.only;rw[if_neg (by omega),if_neg (by omega),if_neg (by omega),if_neg (by omega),if_pos h]
theorem PL(n:Node)(h:n.kind=6):n.only={kind:=n.kind,hash:=n.hash,aH:=n.aH,prev:=n.prev}:=by unfold Node.only;rw[if_neg (by omega),if_neg (by omega),if_neg (by omega),if_neg (by omega),if_neg (by omega),if_pos h]
theorem LV(n:Node)(h:n.kind=7):n.only={kind:=n.kind,dO:=n.dO}:=by unfold Node.only;rw[if_neg (by omega),if_neg (by omega),if_neg (by omega),if_neg (by omega),if_neg (by omega),if_neg (by omega),if_pos h]
theorem OT(n:Node)(h:n.kind=8):n.only={kind:=n.kind,dO:=n.dO,aS:=n.aS,new:=n.new,status:=n.status}:=by unfold Node.only;rw[if_neg (by omega),if_neg (by omega),if_neg (by omega),if_neg (by omega),if_neg (by omega),if_neg (by omega),if_neg (by omega),if_pos h]
end Go.Ct
namespace Go.E
open Go.Q9 Go.RowKit
variable{B w:World}{L:List As}
theorem SH.KQ{n m:Ct.Node}{q q':Lq}(h:SH B w L)(mm:At L (aL n q))(hb:m.aA=n.aA/\q'.pb=q.pb/\q'.cb=q.cb\/m.aA=[]/\q'.pb=none/\q'.cb=0)
  (hp:m.aH=n.aH/\q'.pp=q.pp/\q'.cp=q.cp\/m.aH=[]/\q'.pp=none/\q'.cp=0):SH B w (aL m q'::L):=h.dup mm λO R hA=>by
 obtain⟨Os,Rs,h1,h2,h3,h4⟩:=hA
 have b:=h1 0 _ rfl
 have p:=h1 1 _ rfl
 refine Sv (z:=(m,q')) ⟨?_,?_,λk hk=>?_⟩
 ·rcases hb with⟨e1,e2,e3⟩|⟨e1,e2,e3⟩
  ·show Reads w 1 (.slice q'.pb m.aA.length q'.cb) m.aA.length (m.aA.map _);rw[e1,e2,e3];exact b.1
  ·show Reads w 1 (.slice q'.pb m.aA.length q'.cb) m.aA.length (m.aA.map _);rw[e1,e2,e3];exact⟨rfl,.inl ⟨rfl,rfl⟩⟩
 ·rcases hp with⟨e1,e2,e3⟩|⟨e1,e2,e3⟩
  ·show Reads w 2 (.slice q'.pp m.aH.length q'.cp) m.aH.length (m.aH.flatMap _);rw[e1,e2,e3];exact p.1
  ·show Reads w 2 (.slice q'.pp m.aH.length q'.cp) m.aH.length (m.aH.flatMap _);rw[e1,e2,e3];exact⟨rfl,.inl ⟨rfl,rfl⟩⟩
 ·rcases hk with hk|hk
  ·rcases hb with⟨e1,e2,e3⟩|⟨e1,e2,e3⟩
   ·simp only[e1,e2,e3]at hk;exact(h4 k).2 ⟨0,by simp,(b.2.2 k).2 hk⟩
   ·simp only[e1,e2,e3]at hk;cases hk
  ·rcases hp with⟨e1,e2,e3⟩|⟨e1,e2,e3⟩
   ·simp only[e1,e2,e3]at hk;exact(h4 k).2 ⟨1,by simp,(p.2.2 k).2 hk⟩
   ·simp only[e1,e2,e3]at hk;cases hk
end Go.E
namespace Go.E
open Go.Q9 Go.RowKit
variable{B w:World}{L:List As}
theorem SH.ofB{m:Ct.Node}{p:Option Addr}{c:Nat}(h:SH B w (bS 1 (.slice p m.aA.length c) m.aA.length (m.aA.map (Value.int .i64))::L))(hp:m.aH=[]):SH B w (aL m ⟨p,c,none,0⟩::L):=by
 refine SH.is (l:=[bE m ⟨p,c,none,0⟩,cP m ⟨p,c,none,0⟩]) ?_
 have h2:=(SH.MT 2 h).fr (.c r1 (.c r0 .n))
 unfold bE cP;rw[hp];exact h2
theorem SH.ofP{m:Ct.Node}{p:Option Addr}{c:Nat}(h:SH B w (bS 2 (.slice p m.aH.length c) m.aH.length (m.aH.flatMap aR)::L))(hb:m.aA=[]):SH B w (aL m ⟨none,0,p,c⟩::L):=by
 refine SH.is (l:=[bE m ⟨none,0,p,c⟩,cP m ⟨none,0,p,c⟩]) ?_
 have h2:=SH.MT 1 h
 unfold bE cP;rw[hb];exact h2
end Go.E
namespace Go.Q9
open Go.Proofs.Tryz
open Go.RowKit Go.E Go.Ct
attribute [local irreducible] gA wpS Go.E.X XS C kV lL fin Y U F Ca kU bl rb aV bS ex ce pu sK gK bK zK
variable{B w:World}{L:List As}
theorem WS(n:Ct.Node)(q:Lq)(h:SH B w (aL n q::L))(hk:1<=n.kind/\n.kind<=8):
  Calls prog 133 #[.agg (aK n q).toArray] w λe w'=>∃q',e=.returned (.agg (aK n.only q').toArray)/\SH B w' (aL n.only q'::aL n q::L):=by
 refine cN func133 ntmps133 h λw h=>?_
 refine jX h λb1 w h=>?_
 refine jA h λb2 w h=>?_
 refine qc h (λcJ w h=>?_) λcJ w h=>?_
 refine rr (cD rfl rfl (h.b a0) Row.h) ?_
 have e1:=LL n (by have:=eq_of_beq cJ;omega)
 exact⟨{},by unfold aK;rw[e1];rfl,SH.KQ h.drop.drop .z (.inr ⟨by rw[e1],rfl,rfl⟩) (.inr ⟨by rw[e1],rfl,rfl⟩)⟩
 refine qc h (λdJ w h=>?_) λdJ w h=>?_
 refine rr (cD rfl rfl (h.b a0) Row.h) ?_
 have e1:=PI n (by have:=eq_of_beq dJ;omega)
 exact⟨{},by unfold aK;rw[e1];rfl,SH.KQ h.drop.drop .z (.inr ⟨by rw[e1],rfl,rfl⟩) (.inr ⟨by rw[e1],rfl,rfl⟩)⟩
 refine qc h (λwE w h=>?_) λwE w h=>?_
 refine rr (cD rfl rfl (h.b a0) Row.h) ?_
 have e1:=LA n (by have:=eq_of_beq wE;omega)
 exact⟨⟨q.pb,q.cb,none,0⟩,by unfold aK;rw[e1];rfl,SH.KQ h.drop.drop .z (.inl ⟨by rw[e1],rfl,rfl⟩) (.inr ⟨by rw[e1],rfl,rfl⟩)⟩
 refine qc h (λfO w h=>?_) λfO w h=>?_
 refine rr (cD rfl rfl (h.b a0) Row.h) ?_
 have e1:=PS n (by have:=eq_of_beq fO;omega)
 exact⟨{},by unfold aK;rw[e1];rfl,SH.KQ h.drop.drop .z (.inr ⟨by rw[e1],rfl,rfl⟩) (.inr ⟨by rw[e1],rfl,rfl⟩)⟩
 refine qc h (λjI w h=>?_) λjI w h=>?_
 refine rr (cD rfl rfl (h.b a0) Row.h) ?_
 have e1:=NY n (by have:=eq_of_beq jI;omega)
 exact⟨{},by unfold aK;rw[e1];rfl,SH.KQ h.drop.drop .z (.inr ⟨by rw[e1],rfl,rfl⟩) (.inr ⟨by rw[e1],rfl,rfl⟩)⟩
 refine qc h (λjJ w h=>?_) λjJ w h=>?_
 refine rr (cD rfl rfl (h.b a0) Row.h) ?_
 have e1:=PL n (by have:=eq_of_beq jJ;omega)
 exact⟨⟨none,0,q.pp,q.cp⟩,by unfold aK;rw[e1];rfl,SH.KQ h.drop.drop .z (.inr ⟨by rw[e1],rfl,rfl⟩) (.inl ⟨by rw[e1],rfl,rfl⟩)⟩
 refine qc h (λnX w h=>?_) λnX w h=>?_
 refine rr (cD rfl rfl (h.b a0) Row.h) ?_
 have e1:=LV n (by have:=eq_of_beq nX;omega)
 exact⟨{},by unfold aK;rw[e1];rfl,SH.KQ h.drop.drop .z (.inr ⟨by rw[e1],rfl,rfl⟩) (.inr ⟨by rw[e1],rfl,rfl⟩)⟩
 rcases dQ ((n.kind:Int)==8)with rY|rY<;>refine go h λw h=>?_
 refine rr (cD rfl rfl (h.b a0) Row.h) ?_
 have e1:=OT n (by have:=eq_of_beq rY;omega)
 exact⟨{},by unfold aK;rw[e1];rfl,SH.KQ h.drop.drop .z (.inr ⟨by rw[e1],rfl,rfl⟩) (.inr ⟨by rw[e1],rfl,rfl⟩)⟩
 refine rr (cD rfl rfl (h.b a0) Row.h) ?_
 exact absurd hk (by have:=bM cJ;have:=bM dJ;have:=bM wE;have:=bM fO;have:=bM jI;have:=bM jJ;have:=bM nX;have:=bM rY;omega)
theorem aAd(n:Ct.Node)(q:Lq)(hv:n.valid=true)(h:SH B w (aL n q::L)):
  Calls prog 133 #[.agg (aK n q).toArray] w λe w'=>∃q',e=.returned (.agg (aK n q').toArray)/\SH B w' (aL n q'::aL n q::L):=by
 have e1:=wQ hv
 refine(WS n q h (qI hv)).mono λe w'=>?_
 rw[<- e1];exact id
theorem NW(n:Ct.Node)(q1 q2:Lq)(h:SH B w (aL n q1::aL n q2::L))(hb:n.aA.length<=1000000000000)(hp:n.aH.length<=1000000000000):
  Calls prog 132 #[.agg (aK n q1).toArray,.agg (aK n q2).toArray] w λe w'=>e=.returned ↑true/\SH B w' (aL n q1::aL n q2::L):=by
 refine cN func132 ntmps132 h λw h=>?_
 refine jX h λb1 w h=>?_
 refine jX h λb2 w h=>?_
 refine go h λw h=>?_
 refine go h λw h=>?_
 refine go h λw h=>?_
 refine go h λw h=>?_
 refine go h λw h=>?_
 refine go h λw h=>?_
 have h:=h.fr (.c r2 .n)
 have h:=SH.se (l:=[bE n q1,cP n q1]) h
 have h:=h.fr (.c r4 .n)
 have h:=SH.se (l:=[bE n q2,cP n q2]) h
 refine go h λw h=>?_
 refine bQ (Sj _ _ _ _ _ h.to (by omega)) λw h=>?_
 refine bQ (xM _ _ _ _ _ h.to (by omega)) λw h=>?_
 refine rz ?_
 have h:=((h.fr (.c r4 (.c r4 .n))).drop.drop.fr (.c r3 (.c r1 (.c r1 (.c r0 .n)))))
 have h:=SH.is (l:=[bE n q2,cP n q2]) h
 have h:=h.fr (.c r1 (.c r1 .n))
 exact⟨by rw[(Bw _)],SH.is (l:=[bE n q1,cP n q1]) h⟩
section
attribute [local semireducible] gA wpS Go.E.X XS C kV lL fin Y U F Ca kU bl rb aV bS ex ce pu sK gK bK zK
attribute [local irreducible] gA wpS
variable{B w:World}{L:List As}
theorem Di(n:Ct.Node)(pb:Option Addr)(cb:Nat)(pp:Option Addr)(cp:Nat)(h:SH B w (aL n (⟨pb,cb,pp,cp⟩)::L))(hv:n.valid=true)(hb:n.aA.length<=1000000)(hp:n.aH.length<=1000000000000)(hm:n.aC<18446744073709551616):
  Calls prog 85 #[.agg (aK n (⟨pb,cb,pp,cp⟩)).toArray] w λe w'=>e=.returned ↑true/\SH B w' (aL n ⟨pb,cb,pp,cp⟩::L):=by
 have vf:=iW hv
 have vf_kind:=vf.kind
 have vf_main:=vf.main
 have vf_prev:=vf.prev
 have vf_status:=vf.status
 have vf_gen:=vf.gen
 have vf_key:=vf.key
 have vf_pairs:=vf.aH
 have vf_old:=vf.dO
 have vf_desc:=vf.desc
 refine Kk (args:=[_]) func85 rfl ntmps85 rfl ?_
 refine sq<|rg<|sf (bx h rfl rfl)<|?_
 rintro _ w ⟨b1,rfl,h⟩
 refine st (sg rfl)<|xe<|nx<|sq<|sq<|fD [1,3,5,7,9,11,13,15,17,19,21,22,24,27,29,31,33,35,37,39,41,43,45,47,49,51,53,55,57,59] (by kernel_rfl) h (.c r0 .n) λw h=>tk (λW H=>fa uH rfl)<|tk (λW H=>ld jZ rfl (H.c a0 rfl))<|tk (λW H=>bi rfl rfl rfl)<|tk (λW H=>mv rfl)<|uZ rfl rfl (cI (by omega))<|tk (λW H=>fa uH rfl)<|uZ rfl rfl (cI (by omega))<|tk (λW H=>ld jZ rfl (H.c a0 rfl))<|uZ rfl rfl (cI (by omega))<|tk (λW H=>bi rfl rfl rfl)<|tk (λW H=>pF rfl (cI (by omega)) rfl)<|tk (λW H=>mv rfl)<|uZ rfl rfl (cI (by omega))<|tk (λW H=>kB rfl (eH (H.b a0)) iK)<|uZ rfl rfl (cI (by omega))<|tk (λW H=>kB rfl (eH (H.b a0)) iK)<|uZ rfl rfl (cI (by omega))<|cs (ca eF rfl) ((aAd n (⟨pb,cb,pp,cp⟩) hv (h.fr (.c r1 .n))).mono ?_)
 rintro _ w ⟨q2,rfl,h⟩
 refine⟨_,rfl,h.hs (.c r2 .n),?_⟩
 refine uZ rfl rfl (cI (by omega))<|cs (ca eF rfl) ((NW n _ _ (h.fr (.c r1 (.c r0 .n))) (by omega) (by omega)).mono ?_)
 rintro _ w ⟨rfl,h⟩
 refine⟨_,rfl,h.hs (.c r2 .n),?_⟩
 refine uZ rfl rfl (cI (by omega))<|tk (λW H=>nt rfl)<|tk (λW H=>pF rfl (cI (by omega)) rfl)<|tk (λW H=>mv rfl)<|uZ rfl rfl rfl<|tk (λW H=>fa Bh rfl)<|uZ rfl rfl rfl<|tk (λW H=>ld Ed rfl (H.c a0 rfl))<|uZ rfl rfl rfl<|tk (λW H=>bi rfl rfl rfl)<|tk (λW H=>pF rfl rfl rfl)<|tk (λW H=>mv rfl)<|uZ rfl rfl (cI (by omega))<|tk (λW H=>fa uK rfl)<|uZ rfl rfl (cI (by omega))<|tk (λW H=>ld Ed rfl (H.c a0 rfl))<|uZ rfl rfl (cI (by omega))<|tk (λW H=>bi rfl rfl rfl)<|tk (λW H=>pF rfl (cI (by omega)) rfl)<|tk (λW H=>mv rfl)<|uZ rfl rfl (cI (by omega))<|tk (λW H=>fa vN rfl)<|uZ rfl rfl (cI (by omega))<|tk (λW H=>ld Ed rfl (H.c a0 rfl))<|uZ rfl rfl (cI (by omega))<|tk (λW H=>bi rfl rfl rfl)<|tk (λW H=>pF rfl (cI (by omega)) rfl)<|xz<|nx<|cf rfl (cI (by omega))<|sk<|nx<|sq<|sq<|?_
 have h:SH B w (bS 1 (.slice pb n.aA.length cb) n.aA.length (n.aA.map (Value.int .i64))::bS 2 (.slice pp n.aH.length cp) n.aH.length (n.aH.flatMap aR)::aL n q2::bl b1 (aK n (⟨pb,cb,pp,cp⟩)) 53::L):=SH.se (l:=[bE n (⟨pb,cb,pp,cp⟩),cP n (⟨pb,cb,pp,cp⟩)]) h
 refine rg<|st (fa uH rfl)<|st (ld jZ rfl (h.c a3 rfl))<|xe<|nx<|bk<|sq<|rg<|st (bi rfl rfl rfl)<|st (sg rfl)<|xe<|nx<|?_
 rcases dQ ((n.kind:Int)==2)with cJ|cJ
 ·have Tv:=eq_of_beq cJ
  refine ct rfl cJ<|sq<|rg<|st (fa RB rfl)<|st (ld jZ rfl (h.c a3 rfl))<|st (bi rfl rfl rfl)<|st (sg rfl)<|xe<|nx<|rt<|bt<|tr<|?_
  refine rr (mC results85 rfl)<|?_
  exact⟨by rw[show (decide ((n.gen:Int)>=1))=true from gM (by omega)],SH.is (l:=[bE n ⟨pb,cb,pp,cp⟩,cP n ⟨pb,cb,pp,cp⟩]) (h.fr (.c r2 (.c r2 .n))).drop.drop⟩
 ·have Vu:=bM cJ
  refine cf rfl cJ<|sq<|rg<|st (bi rfl rfl rfl)<|st (sg rfl)<|xe<|nx<|?_
  rcases dQ ((n.kind:Int)==3)with dJ|dJ
  ·have El:=eq_of_beq dJ
   refine ct rfl dJ<|sq<|sq<|rg<|st (sg rfl)<|xe<|nx<|bk<|?_
   refine lp (α:=Nat) (λx=>(.c 1 ↑b1 (.c 3 (.int .i64 (x:Int)) .n))) (λx w=>SH B w (bS 1 (.slice pb n.aA.length cb) n.aA.length (n.aA.map (Value.int .i64))::bS 2 (.slice pp n.aH.length cp) n.aH.length (n.aH.flatMap aR)::aL n q2::bl b1 (aK n (⟨pb,cb,pp,cp⟩)) 53::L)/\(x<=n.aA.length)) (λx=>n.aA.length-x) 0 ⟨rfl,rfl,trivial⟩ ⟨h,bZ _⟩ ?_
   rintro k w ⟨h,hk⟩
   refine sq<|sq<|rg<|st (mv rfl)<|st (fa nE rfl)<|st (ld kZ rfl (h.c a3 rfl))<|st (ln gN rfl rfl)<|st (bi rfl rfl rfl)<|xe<|nx<|?_
   rcases dQ (decide (((k:Int):Int)<(n.aA.length:Int)))with fG|fG
   ·have CY:=dH fG
    refine ct rfl fG<|sk<|nx<|sq<|bk<|sq<|rg<|st (fa nE rfl)<|st (ld kZ rfl (h.c a3 rfl))<|st (mv rfl)<|?_
    obtain⟨DJ,o11,rfl⟩:=h.fq a0 (by omega)
    refine st (ix (j:=k) gN uM rfl rfl (by omega))<|st (ld jE rfl ((h.rr a0).i (by omega)))<|st (bi rfl rfl rfl)<|xe<|nx<|cf rfl (cI (by have:=vf.branch (by omega) k (by omega);omega))<|sk<|bn<|nx<|rg<|st (mv rfl)<|st (bw rfl rfl (iR (c:=((k+1:Nat):Int)) (by omega) (by omega) (by omega)))<|st (sg rfl)<|xe<|nx<|?_
    exact⟨(k+1),⟨rfl,rfl,trivial⟩,⟨h,by(try dsimp only);omega⟩,by(try dsimp only);omega⟩
   ·have QK:=dR fG
    refine cf rfl fG<|xt<|tx<|tx<|be<|nx<|sq<|fD [1,3,5,7,9,10,13,14] (by kernel_rfl) h (.c r3 .n) λw h=>tk (λW H=>fa nE rfl)<|tk (λW H=>ld kZ rfl (H.c a0 rfl))<|tk (λW H=>ln gN rfl rfl)<|tk (λW H=>fa pE rfl)<|tk (λW H=>ld qD rfl (H.c a0 rfl))<|cs (ca eF rfl) ((VN (b:=n.aC) (v:=Bm.pop 64 n.aC) (by omega) (Lib.hid rfl)).mono ?_)
    rintro _ _ ⟨rfl,rfl⟩
    refine⟨_,rfl,h.hs (.c r3 .n),?_⟩
    refine tk (λW H=>bi rfl rfl rfl)<|ef (sg rfl) (h.hs (.c r3 .n))<|xz<|nx<|rt<|bt<|tr<|?_
    refine rr (mC results85 rfl)<|?_
    exact⟨by rw[show (((n.aA.length:Int):Int)==((Bm.pop 64 n.aC:Nat):Int))=true from beq_iff_eq.2 (by have:=vf.count (by omega);omega)],SH.is (l:=[bE n ⟨pb,cb,pp,cp⟩,cP n ⟨pb,cb,pp,cp⟩]) (h.fr (.c r2 (.c r2 .n))).drop.drop⟩
  ·have N2:=bM dJ
   refine cf rfl dJ<|sq<|sq<|rg<|st (bi rfl rfl rfl)<|st (sg rfl)<|xe<|nx<|?_
   rcases dQ ((n.kind:Int)==4)with gD|gD
   ·have JS:=eq_of_beq gD
    refine ct rfl gD<|sk<|nx<|ct rfl gD<|sq<|rg<|st (fa Fu rfl)<|st (ld zH rfl (h.c a3 rfl))<|st (A9 AE rfl rfl)<|st (bi rfl rfl rfl)<|st (sg rfl)<|xe<|nx<|rt<|bt<|tr<|?_
    refine rr (mC results85 rfl)<|?_
    exact⟨by rw[show (decide (((n.key.size:Int):Int)<=64))=true from gM (by omega)],SH.is (l:=[bE n ⟨pb,cb,pp,cp⟩,cP n ⟨pb,cb,pp,cp⟩]) (h.fr (.c r2 (.c r2 .n))).drop.drop⟩
   ·have JW:=bM gD
    refine cf rfl gD<|rg<|st (bi rfl rfl rfl)<|st (sg rfl)<|xe<|nx<|?_
    rcases dQ ((n.kind:Int)==5)with oR|oR
    ·have N0:=eq_of_beq oR
     refine ct rfl oR<|sq<|rg<|st (fa Fu rfl)<|st (ld zH rfl (h.c a3 rfl))<|st (A9 AE rfl rfl)<|st (bi rfl rfl rfl)<|st (sg rfl)<|xe<|nx<|rt<|bt<|tr<|?_
     refine rr (mC results85 rfl)<|?_
     exact⟨by rw[show (decide (((n.key.size:Int):Int)<=64))=true from gM (by omega)],SH.is (l:=[bE n ⟨pb,cb,pp,cp⟩,cP n ⟨pb,cb,pp,cp⟩]) (h.fr (.c r2 (.c r2 .n))).drop.drop⟩
    ·have aAt:=bM oR
     refine cf rfl oR<|sq<|rg<|st (bi rfl rfl rfl)<|st (sg rfl)<|xe<|nx<|?_
     rcases dQ ((n.kind:Int)==6)with jV|jV
     ·have QM:=eq_of_beq jV
      refine ct rfl jV<|sq<|rg<|st (fa qX rfl)<|st (ld wN rfl (h.c a3 rfl))<|st (ln fB rfl rfl)<|st (bi rfl rfl rfl)<|st (mv rfl)<|gT rfl rfl (gM (by omega))<|st (fa qX rfl)<|gT rfl rfl (gM (by omega))<|st (ld wN rfl (h.c a3 rfl))<|gT rfl rfl (gM (by omega))<|cl (ca eF rfl) ((oA n.aH _ _ (h.fr (.c r1 .n)) (vf.pJ (by omega)) (by omega)).mono ?_)
      rintro _ w ⟨rfl,h⟩
      refine⟨_,rfl,?_⟩
      refine st (pT rfl (gM (by omega)) rfl)<|st (mv rfl)<|gT rfl rfl rfl<|st (fa qX rfl)<|gT rfl rfl rfl<|st (ld wN rfl (h.c a3 rfl))<|gT rfl rfl rfl<|cl (ca eF rfl) ((UU n.aH _ _ (h.fr (.c r0 .n)) (vf.short (by omega)) (by omega)).mono ?_)
      rintro _ w ⟨rfl,h⟩
      refine⟨_,rfl,?_⟩
      refine st (pT rfl rfl rfl)<|st (sg rfl)<|xe<|nx<|rt<|bt<|tr<|?_
      refine rr (mC results85 rfl)<|?_
      exact⟨rfl,SH.is (l:=[bE n ⟨pb,cb,pp,cp⟩,cP n ⟨pb,cb,pp,cp⟩]) ((h.fr (.c r2 (.c r2 .n))).drop.drop.fr (.c r1 (.c r0 .n)))⟩
     ·have L5:=bM jV
      refine cf rfl jV<|sq<|rg<|st (bi rfl rfl rfl)<|st (sg rfl)<|xe<|nx<|?_
      rcases dQ ((n.kind:Int)==7)with fP|fP
      ·have aAn:=eq_of_beq fP
       refine ct rfl fP<|sq<|rg<|st (fa Gy rfl)<|st (ld jE rfl (h.c a3 rfl))<|st (bi rfl rfl rfl)<|st (sg rfl)<|xe<|nx<|rt<|bt<|tr<|?_
       refine rr (mC results85 rfl)<|?_
       exact⟨by rw[show (decide ((n.dO:Int)>=1))=true from gM (by omega)],SH.is (l:=[bE n ⟨pb,cb,pp,cp⟩,cP n ⟨pb,cb,pp,cp⟩]) (h.fr (.c r2 (.c r2 .n))).drop.drop⟩
      ·have YV:=bM fP
       refine cf rfl fP<|sq<|rg<|st (bi rfl rfl rfl)<|st (sg rfl)<|xe<|nx<|?_
       rcases dQ ((n.kind:Int)==8)with kQ|kQ
       ·have aAf:=eq_of_beq kQ
        refine ct rfl kQ<|sq<|rg<|st (fa Gy rfl)<|st (ld jE rfl (h.c a3 rfl))<|st (bi rfl rfl rfl)<|st (mv rfl)<|gT rfl rfl (gM (by omega))<|st (fa IT rfl)<|gT rfl rfl (gM (by omega))<|st (ld jE rfl (h.c a3 rfl))<|gT rfl rfl (gM (by omega))<|st (bi rfl rfl rfl)<|st (pT rfl (gM (by omega)) rfl)<|st (mv rfl)<|gT rfl rfl (gM (by omega))<|st (fa GH rfl)<|gT rfl rfl (gM (by omega))<|st (ld jE rfl (h.c a3 rfl))<|gT rfl rfl (gM (by omega))<|st (bi rfl rfl rfl)<|st (pT rfl (gM (by omega)) rfl)<|st (sg rfl)<|xe<|nx<|rt<|bt<|tr<|?_
        refine rr (mC results85 rfl)<|?_
        exact⟨by rw[show (decide ((n.new:Int)>=1))=true from gM (by omega)],SH.is (l:=[bE n ⟨pb,cb,pp,cp⟩,cP n ⟨pb,cb,pp,cp⟩]) (h.fr (.c r2 (.c r2 .n))).drop.drop⟩
       ·have aAi:=bM kQ
        refine cf rfl kQ<|sk<|bn<|nx<|sq<|rg<|st (sg rfl)<|xe<|nx<|rt<|?_
        refine rr (mC results85 rfl)<|?_
        exact⟨rfl,SH.is (l:=[bE n ⟨pb,cb,pp,cp⟩,cP n ⟨pb,cb,pp,cp⟩]) (h.fr (.c r2 (.c r2 .n))).drop.drop⟩
end
variable{B w:World}{L:List As}
theorem CG(n:Ct.Node)(q:Lq)(h:SH B w (aL n q::L))(nf:NF n):
  Calls prog 212 #[.agg (aK n q).toArray] w λe w'=>e=.returned ↑n.oT/\SH B w' (aL n q::L):=by
 have nf_br:=nf.br
 have nf_pr:=nf.pr
 have nf_bm:=nf.bm
 have nf_hs:=nf.hs
 have nf_ks:=nf.ks
 refine cN func212 ntmps212 h λw h=>?_
 refine jX h λb1 w h=>?_
 refine qg h (λcO w h=>?_) λcO w h=>?_
 have Lt:=eq_of_beq cO
 refine go h λw h=>?_
 refine bQ (Di _ _ _ _ _ h.to (nf.v3 (by omega)) (by omega) (by omega) (by omega)) λw h=>?_
 exact rz ⟨by rw[CF cO (nf.v3 (eq_of_beq cO))],h.to⟩
 have Tv:=bM cO
 refine go h λw h=>?_
 exact rz ⟨by rw[d5 cO],h.drop⟩
theorem Ye(n:Ct.Node)(q:Lq)(h:SH B w (aL n q::L))(nf:NF n):
  Calls prog 245 #[.agg (aK n q).toArray] w λe w'=>e=.returned ↑n.Tq/\SH B w' (aL n q::L):=by
 have nf_br:=nf.br
 have nf_pr:=nf.pr
 have nf_bm:=nf.bm
 have nf_hs:=nf.hs
 have nf_ks:=nf.ks
 refine cN func245 ntmps245 h λw h=>?_
 refine jX h λb1 w h=>?_
 refine qg h (λcO w h=>?_) λcO w h=>?_
 have Lt:=eq_of_beq cO
 refine go h λw h=>?_
 refine bQ (Di _ _ _ _ _ h.to (nf.v6 (by omega)) (by omega) (by omega) (by omega)) λw h=>?_
 exact rz ⟨by rw[Np cO (nf.v6 (eq_of_beq cO))],h.to⟩
 have Tv:=bM cO
 refine go h λw h=>?_
 exact rz ⟨by rw[A4 cO],h.drop⟩
theorem iO(n:Ct.Node)(pb:Option Addr)(cb:Nat)(pp:Option Addr)(cp:Nat)(i:Int)(h:SH B w (aL n (⟨pb,cb,pp,cp⟩)::L))(nf:NF n):
  Calls prog 185 #[.agg (aK n (⟨pb,cb,pp,cp⟩)).toArray,↑i] w λe w'=>e=.returned (.tuple #[.int .i64 (Ct.aB n i).1,.bool (Ct.aB n i).2])/\SH B w' (aL n ⟨pb,cb,pp,cp⟩::L):=by
 have nf_bm:=nf.bm
 have nf_hs:=nf.hs
 have nf_ks:=nf.ks
 refine cN func185 ntmps185 h λw h=>?_
 refine jX h λb1 w h=>?_
 refine bQ (CG _ (⟨pb,cb,pp,cp⟩) h.to nf) λw h=>?_
 refine qg h (λcO w h=>?_) λcO w h=>?_
 have cJ:n.oT=false:=by simpa using cO
 refine go h λw h=>?_
 exact rr (iG rfl rfl rfl)<|⟨by rw[AN cJ],h.to⟩
 have eB:n.oT=true:=by simpa using cO
 refine go h λw h=>?_
 refine cl (ca eF rfl) ((Rl n.aC i _ (by omega)).mono ?_)
 rintro _ _ ⟨rfl,rfl⟩
 refine⟨_,rfl,?_⟩
 refine gT rfl rfl cO<|st (nt rfl)<|st (pF rfl cO rfl)<|xe<|nx<|?_
 refine go h λw h=>?_
 refine qc h (λdM w h=>?_) λdM w h=>?_
 have dJ:(Bm.has n.aC i)=false:=by simpa using dM
 refine go h λw h=>?_
 exact rr (iG rfl rfl rfl)<|⟨by rw[Jj dJ],h.to⟩
 have fF:(Bm.has n.aC i)=true:=by simpa using dM
 refine go h λw h=>?_
 have h:=SH.se (l:=[bE n (⟨pb,cb,pp,cp⟩),cP n (⟨pb,cb,pp,cp⟩)]) h
 have hlt:=aBx eB fF
 obtain⟨b8,o9,rfl⟩:=h.fq a0 (by omega)
 refine fD [1,3,5,7,9,10,13,15,16,18] (by kernel_rfl) h (.c r2 (.c r0 .n)) λw h=>go h λw h=>?_
 refine cs (ca eF rfl) ((Cl n.aC i _ (by omega)).mono ?_)
 rintro _ _ ⟨rfl,rfl⟩
 refine⟨_,rfl,h.hs (.c r2 (.c r0 .n)),?_⟩
 refine tk (λW H=>ix (j:=Bm.aN n.aC i) gN uM rfl rfl (by omega))<|tk (λW H=>ld jE rfl ((H.rr a1).i (by omega)))<|ef (sg rfl) (h.hs (.c r2 (.c r0 .n)))<|ef (sg rfl) (h.hs (.c r2 (.c r0 .n)))<|xz<|nx<|rt<|?_
 exact rr (iG rfl rfl rfl)<|⟨by rw[z5 eB fF],SH.is (l:=[bE n ⟨some ⟨b8,o9,none⟩,cb,pp,cp⟩,cP n ⟨some ⟨b8,o9,none⟩,cb,pp,cp⟩]) h.to⟩
theorem Iq(n:Ct.Node)(pb:Option Addr)(cb:Nat)(pp:Option Addr)(cp:Nat)(h:SH B w (aL n (⟨pb,cb,pp,cp⟩)::L))(nf:NF n):
  Calls prog 214 #[.agg (aK n (⟨pb,cb,pp,cp⟩)).toArray] w λe w'=>e=.returned (.tuple #[.int .i64 (Ct.iP n).1,.bool (Ct.iP n).2])/\SH B w' (aL n ⟨pb,cb,pp,cp⟩::L):=by
 have nf_br:=nf.br
 have nf_pr:=nf.pr
 have nf_bm:=nf.bm
 have nf_hs:=nf.hs
 have nf_ks:=nf.ks
 refine cN func214 ntmps214 h λw h=>?_
 refine jX h λb1 w h=>?_
 refine bQ (CG _ (⟨pb,cb,pp,cp⟩) h.to nf) λw h=>?_
 refine qg h (λcO w h=>?_) λcO w h=>?_
 have cJ:n.oT=false:=by simpa using cO
 refine go h λw h=>?_
 exact rr (iG rfl rfl rfl)<|⟨by rw[I9 cJ],h.to⟩
 have eB:n.oT=true:=by simpa using cO
 refine go h λw h=>?_
 refine qc h (λdM w h=>?_) λdM w h=>?_
 have CX:=bne_iff_ne.1 dM
 refine go h λw h=>?_
 exact rr (iG rfl rfl rfl)<|⟨by rw[C9 (by omega)],h.to⟩
 have El:=eT dM
 refine go h λw h=>?_
 have h:=SH.se (l:=[bE n (⟨pb,cb,pp,cp⟩),cP n (⟨pb,cb,pp,cp⟩)]) h
 refine go h λw h=>?_
 obtain⟨b8,o9,rfl⟩:=h.fq a0 (by omega)
 refine go h λw h=>?_
 exact rr (iG rfl rfl rfl)<|⟨by rw[I4 eB (by omega)],SH.is (l:=[bE n ⟨some ⟨b8,o9,none⟩,cb,pp,cp⟩,cP n ⟨some ⟨b8,o9,none⟩,cb,pp,cp⟩]) h.to⟩
theorem Uv(n:Ct.Node)(q:Lq)(h:SH B w (aL n q::L)):
  Calls prog 187 #[.agg (aK n q).toArray] w λe w'=>∃q',e=.returned (.tuple #[.agg (aK (Ct.aP n).1 q').toArray,.bool (Ct.aP n).2])/\SH B w' (aL (Ct.aP n).1 q'::aL n q::L):=by
 refine cN func187 ntmps187 h λw h=>?_
 refine jX h λb1 w h=>?_
 refine jA h λb2 w h=>?_
 refine qc h (λcJ w h=>?_) λcJ w h=>?_
 have Tv:=bne_iff_ne.1 cJ
 refine go h λw h=>?_
 refine rr (dS rfl rfl (h.b a0) Row.h rfl) ?_
 rw[aC6 (by omega)];exact⟨{},rfl,SH.fI _ rfl rfl h.drop.drop⟩
 have Vu:=eT cJ
 refine go h λw h=>?_
 refine rr (dS rfl rfl (h.b a0) Row.h rfl) ?_
 rw[n8 (by omega)];exact⟨{},rfl,SH.fI _ rfl rfl h.drop.drop⟩
theorem rX(n:Ct.Node)(q:Lq)(level:Int)(s:Ct.Node)(q2:Lq)(h:SH B w (aL n q::aL s q2::L))(nf:NF n):
  Calls prog 189 #[.agg (aK n q).toArray,↑level,.agg (aK s q2).toArray] w λe w'=>∃q',e=.returned (.agg (aK (Ct.bI n level s) q').toArray)/\SH B w' (aL (Ct.bI n level s) q'::aL n q::aL s q2::L):=by
 refine cN func189 ntmps189 h λw h=>?_
 refine jX h λb1 w h=>?_
 refine jX h λb2 w h=>?_
 refine jA h λb3 w h=>?_
 refine bQ (Iq _ _ _ _ _ h.to nf) λw h=>?_
 refine qg h (λeB w h=>?_) λeB w h=>?_
 ·refine qg h (λdM w h=>?_) λdM w h=>?_
  ·have CX:=dH dM
   refine go h λw h=>?_
   refine qc h (λfF w h=>?_) λfF w h=>?_
   ·have Ua:=eq_of_beq fF
    refine go h λw h=>?_
    refine rr (cD rfl rfl (h.b a1) Row.h) ?_
    rw[C0 eB (by omega) (by omega)];exact⟨{},rfl,SH.fI _ rfl rfl (h.fr (.c r1 (.c r1 (.c r1 .n)))).drop.drop.drop⟩
   ·have CY:=bM fF
    refine go h λw h=>?_
    refine rr (cD rfl rfl (h.b a1) Row.h) ?_
    rw[A7 (by omega)];exact⟨q,rfl,SH.Wr (h.fr (.c r1 (.c r1 (.c r1 .n)))).drop.drop.drop .z⟩
  ·have L7:=dR dM
   refine go h λw h=>?_
   refine rr (cD rfl rfl (h.b a1) Row.h) ?_
   rw[I6 (by omega)];exact⟨q,rfl,SH.Wr (h.fr (.c r1 (.c r1 (.c r1 .n)))).drop.drop.drop .z⟩
 ·refine rr (cD rfl rfl (h.b a1) Row.h) ?_
  rw[K0 eB];exact⟨q,rfl,SH.Wr (h.fr (.c r1 (.c r1 (.c r1 .n)))).drop.drop.drop .z⟩
section
attribute [local semireducible] gA wpS Go.E.X XS C kV lL fin Y U F Ca kU bl rb aV bS ex ce pu sK gK bK zK
attribute [local irreducible] gA wpS
variable{B w:World}{L:List As}
theorem Dx(n:Ct.Node)(qn:Lq)(i r:Int)(h:SH B w (aL n qn::L))(nf:NF n):
  Calls prog 213 #[.agg (aK n qn).toArray,↑i,↑r] w λe w'=>∃q',e=.returned (.agg (aK (Ew n i r) q').toArray)/\SH B w' (aL (Ew n i r) q'::aL n qn::L):=by
 have nf_br:=nf.br
 have nf_pr:=nf.pr
 have nf_bm:=nf.bm
 have nf_hs:=nf.hs
 have nf_ks:=nf.ks
 refine Kk (args:=[_,_,_]) func213 rfl ntmps213 rfl ?_
 refine sq<|rg<|sf (bx h rfl rfl)<|?_
 rintro _ w ⟨b1,rfl,h⟩
 refine sf (al h GY)<|?_
 rintro _ w ⟨b2,rfl,h⟩
 refine xe<|nx<|sq<|rg<|st (bd [.int .i64 3,.int .i64 0,.int .i64 0,.int .u64 0,.slice none 0 0,.int .u64 0,.string .empty,.int .u64 0,.slice none 0 0,.int .i64 0,.int .i64 0,.int .i64 0,.int .i64 0,.int .i64 0] Cp rfl (by kernel_rfl))<|sf (al h GY)<|?_
 rintro _ w ⟨b3,rfl,h⟩
 refine sf (so h rfl rfl rfl xS rfl (.r (.r (.r (.r (.r (.r (.r (.r (.r (.r (.r (.r (.r (.r .d)))))))))))))) u0)<|?_
 rintro _ w h
 refine xe<|nx<|sq<|sq<|rg<|st (sg rfl)<|xe<|nx<|bk<|?_
 have h:=SH.nil 44 1 h
 refine lp (α:=Nat×Nat×List Int×Nat×Option Addr×Nat) (λx=>(.c 1 ↑i (.c 2 ↑r (.c 3 ↑b1 (.c 6 ↑b2 (.c 7 ↑b3 (.c 8 (.int .i64 (x.1:Int)) .n))))))) (λx w=>SH B w (bl b3 ([.int .i64 3,.int .i64 0,.int .i64 0,.int .u64 (x.2.1:Int),.slice x.2.2.2.2.1 x.2.2.2.1 x.2.2.2.2.2,.int .u64 0,.string .empty,.int .u64 0,.slice none 0 0,.int .i64 0,.int .i64 0,.int .i64 0,.int .i64 0,.int .i64 0]) 53::aV 44 1 (.slice x.2.2.2.2.1 x.2.2.2.1 x.2.2.2.2.2) x.2.2.2.1 (x.2.2.1.map (Value.int .i64))::aL n qn::bl b1 (aK n qn) 53::bl b2 ([.int .i64 0,.int .i64 0,.int .i64 0,.int .u64 0,.slice none 0 0,.int .u64 0,.string .empty,.int .u64 0,.slice none 0 0,.int .i64 0,.int .i64 0,.int .i64 0,.int .i64 0,.int .i64 0]) 53::L)/\(x.1<=64)/\(x.2.2.1.length=x.2.2.2.1)/\(x.2.2.2.1<=x.1)/\((x.2.1,x.2.2.1)=bW n i r x.1)/\(x.2.1<18446744073709551616)) (λx=>64-x.1) (0,0,[],0,none,0) ⟨rfl,rfl,rfl,rfl,rfl,rfl,trivial⟩ ⟨(h.fr (.c r1 (.c r0 (.c r2 (.c r1 (.c r0 .n)))))),bZ _,rfl,aW _,rfl,by decide⟩ ?_
 rintro⟨k,bm,out,m,q,cq⟩ w ⟨h,hk,hn,YQ,hW,KY⟩
 dsimp only at *
 refine sq<|sq<|rg<|st (mv rfl)<|st (bi rfl rfl rfl)<|xe<|nx<|?_
 rcases dQ (decide (((k:Int):Int)<64))with eB|eB
 ·have Vu:=dH eB
  refine ct rfl eB<|sk<|nx<|sq<|bk<|sq<|rg<|st (kB rfl (eH (h.b a3)) iK)<|st (mv rfl)<|cl (ca eF rfl) ((iO n qn.pb qn.cb qn.pp qn.cp (k:Int) (h.fr (.c r2 .n)) nf).mono ?_)
  rintro _ w ⟨rfl,h⟩
  refine⟨_,rfl,?_⟩
  refine st (mv rfl)<|st (xr rfl rfl)<|st (xr rfl rfl)<|st (sg rfl)<|st (sg rfl)<|xe<|nx<|sq<|sq<|rg<|st (mv rfl)<|st (mv rfl)<|st (bi rfl rfl rfl)<|xe<|nx<|?_
  rcases dQ (((k:Int):Int)==i)with dJ|dJ
  ·have El:=eq_of_beq dJ
   refine ct rfl dJ<|rg<|st (mv rfl)<|st (mv rfl)<|st (bi rfl rfl rfl)<|st (sg rfl)<|st (sg rfl)<|xe<|nx<|sq<|rg<|st (mv rfl)<|xe<|nx<|?_
   rcases dQ (decide ((r:Int)>0))with fG|fG
   ·have CY:=dH fG
    refine ct rfl fG<|aJe (F:=[ce b3 3 (.int .u64 (bm:Int)),ce b3 4 (.slice q m cq)]) [1,3,5,9,11,13] 3 7 [(true,[19,14,16]),(false,[20,23,24])] [(true,[6,19,16]),(false,[20,23,24])] (by kernel_rfl) h (λw h=>(hC (h.tX a1 rfl) (hC (h.tX a1 rfl) hN))) λw h=>tk (λW H=>fa pE rfl)<|tk (λW H=>ld qD rfl (H.ce a0))<|tk (λW H=>mv rfl)<|tk (λW H=>fa nE rfl)<|tk (λW H=>ld kZ rfl (H.ce a1))<|tk (λW H=>mv rfl)<|aJv ?_ ?_
    ·refine cs (ca eF rfl) ((qR bm (k:Int) _ (by omega)).mono ?_)
     rintro _ _ ⟨rfl,rfl⟩
     refine⟨_,rfl,(hC (h.tX a1 rfl) (hC (h.tX a1 rfl) hN)),?_⟩
     refine xgT<|tk (λW H=>fa pE rfl)<|ff (bu [↑r] h gN sD rfl (by kernel_rfl) rfl (by decide) (by decide))<|?_
     rintro _ w ⟨DJ,rfl,h⟩
     refine⟨(hC (h.tX a2 rfl) (hC (h.tX a2 rfl) hN)),?_⟩
     refine ff (ap h gN rfl sD rfl (by decide) rfl rfl (λ_=>u3) (h.ro a0) (by simp[Value.oneCell']) rfl (fK _ _) (by unfold maxLen;omega) (by omega))<|?_
     rintro _ w ⟨p11,c12,rfl,h⟩
     refine⟨(hC (h.tX a2 rfl) (hC (h.tX a2 rfl) hN)),?_⟩
     refine KR<|ff (so h rfl rfl rfl HK rfl (.s (.s (.s (.r .d)))) u2)<|?_
     rintro _ w h
     refine⟨trivial,?_⟩
     refine tk (λW H=>fa nE rfl)<|ff (so h rfl rfl rfl xN rfl (.s (.s (.s (.s (.r .d))))) u2)<|?_
     rintro _ w h
     refine⟨trivial,?_⟩
     refine xz<|bn<|nx<|rg<|st (mv rfl)<|st (bw rfl rfl (iR (c:=((k+1:Nat):Int)) (by omega) (by omega) (by omega)))<|st (sg rfl)<|xe<|nx<|?_
     exact⟨(k+1,Bm.cR bm (k:Int),out++[r],m+1,p11,c12),⟨rfl,rfl,rfl,rfl,rfl,rfl,trivial⟩,⟨(h.drop.fr (.c r1 (.c r1 (.c r0 (.c r0 (.c r0 .n)))))),by(try dsimp only);omega,by simp[hn],by(try dsimp only);omega,aBz dJ fG hW,Bm.kH _ _ KY⟩,by(try dsimp only);omega⟩
    ·refine ff (bu [↑r] h gN sD rfl (by kernel_rfl) rfl (by decide) (by decide))<|?_
     rintro _ w ⟨QI,rfl,h⟩
     refine⟨(hC (h.tX a2 rfl) (hC (h.tX a2 rfl) hN)),?_⟩
     refine xgT<|cs (ca eF rfl) ((qR bm (k:Int) _ (by omega)).mono ?_)
     rintro _ _ ⟨rfl,rfl⟩
     refine⟨_,rfl,(hC (h.tX a2 rfl) (hC (h.tX a2 rfl) hN)),?_⟩
     refine tk (λW H=>fa pE rfl)<|ff (ap h gN rfl sD rfl (by decide) rfl rfl (λ_=>u3) (h.ro a0) (by simp[Value.oneCell']) rfl (fK _ _) (by unfold maxLen;omega) (by omega))<|?_
     rintro _ w ⟨p14,c15,rfl,h⟩
     refine⟨(hC (h.tX a2 rfl) (hC (h.tX a2 rfl) hN)),?_⟩
     refine KR<|ff (so h rfl rfl rfl HK rfl (.s (.s (.s (.r .d)))) u2)<|?_
     rintro _ w h
     refine⟨trivial,?_⟩
     refine tk (λW H=>fa nE rfl)<|ff (so h rfl rfl rfl xN rfl (.s (.s (.s (.s (.r .d))))) u2)<|?_
     rintro _ w h
     refine⟨trivial,?_⟩
     refine xz<|bn<|nx<|rg<|st (mv rfl)<|st (bw rfl rfl (iR (c:=((k+1:Nat):Int)) (by omega) (by omega) (by omega)))<|st (sg rfl)<|xe<|nx<|?_
     exact⟨(k+1,Bm.cR bm (k:Int),out++[r],m+1,p14,c15),⟨rfl,rfl,rfl,rfl,rfl,rfl,trivial⟩,⟨(h.drop.fr (.c r1 (.c r1 (.c r0 (.c r0 (.c r0 .n)))))),by(try dsimp only);omega,by simp[hn],by(try dsimp only);omega,aBz dJ fG hW,Bm.kH _ _ KY⟩,by(try dsimp only);omega⟩
   ·have JW:=dR fG
    refine cf rfl fG<|sk<|bn<|nx<|rg<|st (mv rfl)<|st (bw rfl rfl (iR (c:=((k+1:Nat):Int)) (by omega) (by omega) (by omega)))<|st (sg rfl)<|xe<|nx<|?_
    exact⟨(k+1,bm,out,m,q,cq),⟨rfl,rfl,rfl,rfl,rfl,rfl,trivial⟩,⟨(h.fr (.c r1 (.c r1 (.c r0 (.c r0 (.c r0 .n)))))),by(try dsimp only);omega,hn,by(try dsimp only);omega,aIt dJ fG hW,KY⟩,by(try dsimp only);omega⟩
  ·have aFg:=bM dJ
   refine cf rfl dJ<|sk<|nx<|sq<|rg<|st (mv rfl)<|xe<|nx<|?_
   rcases dQ ((Ct.aB n (k:Int)).2)with jJ|jJ
   ·refine ct rfl jJ<|aJe (F:=[ce b3 3 (.int .u64 (bm:Int)),ce b3 4 (.slice q m cq)]) [1,3,5,9,11,13] 3 7 [(true,[19,14,16]),(false,[20,23,24])] [(true,[6,19,16]),(false,[20,23,24])] (by kernel_rfl) h (λw h=>(hC (h.tX a1 rfl) (hC (h.tX a1 rfl) hN))) λw h=>tk (λW H=>fa pE rfl)<|tk (λW H=>ld qD rfl (H.ce a0))<|tk (λW H=>mv rfl)<|tk (λW H=>fa nE rfl)<|tk (λW H=>ld kZ rfl (H.ce a1))<|tk (λW H=>mv rfl)<|aJv ?_ ?_
    ·refine cs (ca eF rfl) ((qR bm (k:Int) _ (by omega)).mono ?_)
     rintro _ _ ⟨rfl,rfl⟩
     refine⟨_,rfl,(hC (h.tX a1 rfl) (hC (h.tX a1 rfl) hN)),?_⟩
     refine xgT<|tk (λW H=>fa pE rfl)<|ff (bu [.int .i64 ((Ct.aB n (k:Int)).1)] h gN sD rfl (by kernel_rfl) rfl (by decide) (by decide))<|?_
     rintro _ w ⟨b19,rfl,h⟩
     refine⟨(hC (h.tX a2 rfl) (hC (h.tX a2 rfl) hN)),?_⟩
     refine ff (ap h gN rfl sD rfl (by decide) rfl rfl (λ_=>u3) (h.ro a0) (by simp[Value.oneCell']) rfl (fK _ _) (by unfold maxLen;omega) (by omega))<|?_
     rintro _ w ⟨p20,c21,rfl,h⟩
     refine⟨(hC (h.tX a2 rfl) (hC (h.tX a2 rfl) hN)),?_⟩
     refine KR<|ff (so h rfl rfl rfl HK rfl (.s (.s (.s (.r .d)))) u2)<|?_
     rintro _ w h
     refine⟨trivial,?_⟩
     refine tk (λW H=>fa nE rfl)<|ff (so h rfl rfl rfl xN rfl (.s (.s (.s (.s (.r .d))))) u2)<|?_
     rintro _ w h
     refine⟨trivial,?_⟩
     refine xz<|bn<|nx<|rg<|st (mv rfl)<|st (bw rfl rfl (iR (c:=((k+1:Nat):Int)) (by omega) (by omega) (by omega)))<|st (sg rfl)<|xe<|nx<|?_
     exact⟨(k+1,Bm.cR bm (k:Int),out++[(Ct.aB n (k:Int)).1],m+1,p20,c21),⟨rfl,rfl,rfl,rfl,rfl,rfl,trivial⟩,⟨(h.drop.fr (.c r1 (.c r1 (.c r0 (.c r0 (.c r0 .n)))))),by(try dsimp only);omega,by simp[hn],by(try dsimp only);omega,aB2 dJ jJ hW,Bm.kH _ _ KY⟩,by(try dsimp only);omega⟩
    ·refine ff (bu [.int .i64 ((Ct.aB n (k:Int)).1)] h gN sD rfl (by kernel_rfl) rfl (by decide) (by decide))<|?_
     rintro _ w ⟨b22,rfl,h⟩
     refine⟨(hC (h.tX a2 rfl) (hC (h.tX a2 rfl) hN)),?_⟩
     refine xgT<|cs (ca eF rfl) ((qR bm (k:Int) _ (by omega)).mono ?_)
     rintro _ _ ⟨rfl,rfl⟩
     refine⟨_,rfl,(hC (h.tX a2 rfl) (hC (h.tX a2 rfl) hN)),?_⟩
     refine tk (λW H=>fa pE rfl)<|ff (ap h gN rfl sD rfl (by decide) rfl rfl (λ_=>u3) (h.ro a0) (by simp[Value.oneCell']) rfl (fK _ _) (by unfold maxLen;omega) (by omega))<|?_
     rintro _ w ⟨p23,c24,rfl,h⟩
     refine⟨(hC (h.tX a2 rfl) (hC (h.tX a2 rfl) hN)),?_⟩
     refine KR<|ff (so h rfl rfl rfl HK rfl (.s (.s (.s (.r .d)))) u2)<|?_
     rintro _ w h
     refine⟨trivial,?_⟩
     refine tk (λW H=>fa nE rfl)<|ff (so h rfl rfl rfl xN rfl (.s (.s (.s (.s (.r .d))))) u2)<|?_
     rintro _ w h
     refine⟨trivial,?_⟩
     refine xz<|bn<|nx<|rg<|st (mv rfl)<|st (bw rfl rfl (iR (c:=((k+1:Nat):Int)) (by omega) (by omega) (by omega)))<|st (sg rfl)<|xe<|nx<|?_
     exact⟨(k+1,Bm.cR bm (k:Int),out++[(Ct.aB n (k:Int)).1],m+1,p23,c24),⟨rfl,rfl,rfl,rfl,rfl,rfl,trivial⟩,⟨(h.drop.fr (.c r1 (.c r1 (.c r0 (.c r0 (.c r0 .n)))))),by(try dsimp only);omega,by simp[hn],by(try dsimp only);omega,aB2 dJ jJ hW,Bm.kH _ _ KY⟩,by(try dsimp only);omega⟩
   ·refine cf rfl jJ<|sk<|bn<|nx<|rg<|st (mv rfl)<|st (bw rfl rfl (iR (c:=((k+1:Nat):Int)) (by omega) (by omega) (by omega)))<|st (sg rfl)<|xe<|nx<|?_
    exact⟨(k+1,bm,out,m,q,cq),⟨rfl,rfl,rfl,rfl,rfl,rfl,trivial⟩,⟨(h.fr (.c r1 (.c r1 (.c r0 (.c r0 (.c r0 .n)))))),by(try dsimp only);omega,hn,by(try dsimp only);omega,aIf dJ jJ hW,KY⟩,by(try dsimp only);omega⟩
 ·have YV:=dR eB
  refine cf rfl eB<|xt<|tx<|tx<|be<|nx<|sq<|rg<|st (kB rfl (eH (h.b a0)) iK)<|sf (so h rfl rfl rfl xS rfl (.r (.r (.r (.r (.r (.r (.r (.r (.r (.r (.r (.r (.r (.r .d)))))))))))))) u4)<|?_
  rintro _ w h
  refine xe<|nx<|rt<|?_
  refine rr (cD results213 rfl (h.b a4) iK)<|?_
  obtain rfl:k=64:=by omega
  have e1:bm=(bW n i r 64).1:=by rw[<- hW]
  have e2:out=(bW n i r 64).2:=by rw[<- hW]
  subst hn;subst e1;subst e2
  exact⟨⟨q,cq,none,0⟩,rfl,SH.ofB (m:=Ew n i r) ((h.fr (.c r0 (.c r2 (.c r2 .n)))).drop.drop.drop).fz rfl⟩
end
variable{B w:World}{L:List As}
theorem vA(n:Ct.Node)(q:Lq)(i r:Int)(h:SH B w (aL n q::L))(nf:NF n):
  Calls prog 218 #[.agg (aK n q).toArray,↑i,↑r] w λe w'=>∃q',e=.returned (.tuple #[.agg (aK (Ct.aO n i r).1 q').toArray,.bool (Ct.aO n i r).2])/\SH B w' (aL (Ct.aO n i r).1 q'::aL n q::L):=by
 have nf_br:=nf.br
 have nf_pr:=nf.pr
 have nf_bm:=nf.bm
 have nf_hs:=nf.hs
 have nf_ks:=nf.ks
 refine cN func218 ntmps218 h λw h=>?_
 refine jX h λb1 w h=>?_
 refine jA h λb2 w h=>?_
 refine bQ (iO _ _ _ _ _ _ h.to nf) λw h=>?_
 refine bQ (CG _ _ h.to nf) λw h=>?_
 refine qg h (λcJ w h=>?_) λcJ w h=>?_
 have eB:n.oT=false:=by simpa using cJ
 refine go h λw h=>?_
 refine rr (dS rfl rfl (h.b a1) Row.h rfl) ?_
 rw[Sa (.inl eB)];exact⟨{},rfl,SH.fI _ rfl rfl (h.fr (.c r1 (.c r1 .n))).drop.drop⟩
 have dM:n.oT=true:=by simpa using cJ
 refine go h λw h=>?_
 refine qg h (λdJ w h=>?_) λdJ w h=>?_
 refine rr (dS rfl rfl (h.b a1) Row.h rfl) ?_
 rw[Sa (.inr (.inl dJ))];exact⟨{},rfl,SH.fI _ rfl rfl (h.fr (.c r1 (.c r1 .n))).drop.drop⟩
 refine qg h (λfF w h=>?_) λfF w h=>?_
 have Ua:=dH fF
 refine go h λw h=>?_
 refine rr (dS rfl rfl (h.b a1) Row.h rfl) ?_
 rw[Sa (.inr (.inr (by omega)))];exact⟨{},rfl,SH.fI _ rfl rfl (h.fr (.c r1 (.c r1 .n))).drop.drop⟩
 have CY:=dR fF
 refine go h λw h=>?_
 refine qg h (λdG w h=>?_) λdG w h=>?_
 have N8:=dH dG
 refine go h λw h=>?_
 refine rr (dS rfl rfl (h.b a1) Row.h rfl) ?_
 rw[Sa (.inr (.inr (by omega)))];exact⟨{},rfl,SH.fI _ rfl rfl (h.fr (.c r1 (.c r1 .n))).drop.drop⟩
 have QK:=dR dG
 refine go h λw h=>?_
 refine qc h (λeJ w h=>?_) λeJ w h=>?_
 have CW:=dH eJ
 refine go h λw h=>?_
 refine rr (dS rfl rfl (h.b a1) Row.h rfl) ?_
 rw[Sa (.inr (.inr (by omega)))];exact⟨{},rfl,SH.fI _ rfl rfl (h.fr (.c r1 (.c r1 .n))).drop.drop⟩
 have JS:=dR eJ
 refine go h λw h=>?_
 refine cS (Dx _ _ _ _ h.to nf) λUi w h=>?_
 refine rr (dS rfl rfl (h.b a2) Row.h rfl) ?_
 rw[zB nf.bm dM dJ (by omega) (by omega) (by omega)];exact⟨Ui,rfl,(h.fr (.c r2 (.c r2 .n))).drop.drop⟩
theorem Gl(n:Ct.Node)(q:Lq)(i r:Int)(h:SH B w (aL n q::L))(nf:NF n):
  Calls prog 188 #[.agg (aK n q).toArray,↑i,↑r] w λe w'=>∃q',e=.returned (.tuple #[.agg (aK (Ct.aM n i r).1 q').toArray,.bool (Ct.aM n i r).2])/\SH B w' (aL (Ct.aM n i r).1 q'::aL n q::L):=by
 have nf_br:=nf.br
 have nf_pr:=nf.pr
 have nf_bm:=nf.bm
 have nf_hs:=nf.hs
 have nf_ks:=nf.ks
 refine cN func188 ntmps188 h λw h=>?_
 refine jX h λb1 w h=>?_
 refine jA h λb2 w h=>?_
 refine bQ (iO _ _ _ _ _ _ h.to nf) λw h=>?_
 refine qg h (λcJ w h=>?_) λcJ w h=>?_
 have eB:((Ct.aB n i).2)=false:=by simpa using cJ
 refine go h λw h=>?_
 refine rr (dS rfl rfl (h.b a1) Row.h rfl) ?_
 rw[J0 (.inl eB)];exact⟨{},rfl,SH.fI _ rfl rfl (h.fr (.c r1 (.c r1 .n))).drop.drop⟩
 have dM:((Ct.aB n i).2)=true:=by simpa using cJ
 refine go h λw h=>?_
 refine qc h (λdJ w h=>?_) λdJ w h=>?_
 have El:=dH dJ
 refine go h λw h=>?_
 refine rr (dS rfl rfl (h.b a1) Row.h rfl) ?_
 rw[J0 (.inr (by omega))];exact⟨{},rfl,SH.fI _ rfl rfl (h.fr (.c r1 (.c r1 .n))).drop.drop⟩
 have Ua:=dR dJ
 refine go h λw h=>?_
 refine cS (Dx _ _ _ _ h.to nf) λq9 w h=>?_
 refine rr (dS rfl rfl (h.b a2) Row.h rfl) ?_
 rw[nS nf.bm dM (by omega)];exact⟨q9,rfl,(h.fr (.c r2 (.c r2 .n))).drop.drop⟩
theorem Hj(n:Ct.Node)(q:Lq)(i:Int)(h:SH B w (aL n q::L))(nf:NF n):
  Calls prog 221 #[.agg (aK n q).toArray,↑i] w λe w'=>∃q',e=.returned (.tuple #[.agg (aK (Ct.cG n i).1 q').toArray,.bool (Ct.cG n i).2])/\SH B w' (aL (Ct.cG n i).1 q'::aL n q::L):=by
 have nf_br:=nf.br
 have nf_pr:=nf.pr
 have nf_bm:=nf.bm
 have nf_hs:=nf.hs
 have nf_ks:=nf.ks
 refine cN func221 ntmps221 h λw h=>?_
 refine jX h λb1 w h=>?_
 refine jA h λb2 w h=>?_
 refine bQ (iO _ _ _ _ _ _ h.to nf) λw h=>?_
 refine qc h (λcJ w h=>?_) λcJ w h=>?_
 ·have eB:((Ct.aB n i).2)=false:=by simpa using cJ
  refine go h λw h=>?_
  refine rr (dS rfl rfl (h.b a1) Row.h rfl) ?_
  rw[aD2 eB];exact⟨{},rfl,SH.fI _ rfl rfl (h.fr (.c r1 (.c r1 .n))).drop.drop⟩
 ·have dM:((Ct.aB n i).2)=true:=by simpa using cJ
  refine go h λw h=>?_
  refine cS (Dx _ _ _ _ h.to nf) λq6 w h=>?_
  refine rr (dS rfl rfl (h.b a2) Row.h rfl) ?_
  rw[Cd nf.bm dM];exact⟨q6,rfl,(h.fr (.c r2 (.c r2 .n))).drop.drop⟩
section
attribute [local semireducible] gA wpS Go.E.X XS C kV lL fin Y U F Ca kU bl rb aV bS ex ce pu sK gK bK zK
attribute [local irreducible] gA wpS
variable{B w:World}{L:List As}
theorem MP(n:Ct.Node)(q:Lq)(key:ByteArray)(v:Nat)(h:SH B w (aL n q::L))(nf:NF n):
  Calls prog 216 #[.agg (aK n q).toArray,↑key,.int .u64 (v:Int)] w λe w'=>∃q',e=.returned (.tuple #[.agg (aK (Ct.grown n key v).1 q').toArray,.bool (Ct.grown n key v).2])/\SH B w' (aL (Ct.grown n key v).1 q'::aL n q::L):=by
 have nf_br:=nf.br
 have nf_pr:=nf.pr
 have nf_bm:=nf.bm
 have nf_hs:=nf.hs
 have nf_ks:=nf.ks
 refine Kk (args:=[_,_,_]) func216 rfl ntmps216 rfl ?_
 refine sq<|rg<|sf (bx h rfl rfl)<|?_
 rintro _ w ⟨b1,rfl,h⟩
 refine sf (al h GY)<|?_
 rintro _ w ⟨b2,rfl,h⟩
 refine st (sg rfl)<|xe<|nx<|sq<|sq<|rg<|st (kB rfl (eH (h.b a1)) iK)<|cl (ca eF rfl) ((Ye n q (h.fr (.c r2 .n)) nf).mono ?_)
 rintro _ w ⟨rfl,h⟩
 refine⟨_,rfl,?_⟩
 refine st (nt rfl)<|st (mv rfl)<|?_
 rcases dQ (!n.Tq)with cJ|cJ
 ·have eB:n.Tq=false:=by simpa using cJ
  refine gF rfl rfl cJ<|gF rfl rfl cJ<|gF rfl rfl cJ<|st (pT rfl cJ rfl)<|xe<|nx<|cT rfl<|sq<|rg<|st (bd [.int .i64 0,.int .i64 0,.int .i64 0,.int .u64 0,.slice none 0 0,.int .u64 0,.string .empty,.int .u64 0,.slice none 0 0,.int .i64 0,.int .i64 0,.int .i64 0,.int .i64 0,.int .i64 0] Cp rfl (by kernel_rfl))<|sf (so h rfl rfl rfl xS rfl (.r (.r (.r (.r (.r (.r (.r (.r (.r (.r (.r (.r (.r (.r .d)))))))))))))) u1)<|?_
  rintro _ w h
  refine st (sg rfl)<|xe<|nx<|rt<|tr<|?_
  refine rr (dS results216 rfl (h.b a1) iK rfl)<|?_
  rw[QY (.inl eB)];exact⟨{},rfl,SH.fI _ rfl rfl (h.fr (.c r1 (.c r1 .n))).drop.drop⟩
 ·have dM:n.Tq=true:=by simpa using cJ
  refine gT rfl rfl cJ<|st (mv rfl)<|gT rfl rfl cJ<|st (A9 AE rfl rfl)<|gT rfl rfl cJ<|st (bi rfl rfl rfl)<|st (pF rfl cJ rfl)<|xe<|nx<|?_
  rcases dQ (decide (((key.size:Int):Int)>64))with dJ|dJ
  ·have El:=dH dJ
   refine ct rfl dJ<|sq<|rg<|st (bd [.int .i64 0,.int .i64 0,.int .i64 0,.int .u64 0,.slice none 0 0,.int .u64 0,.string .empty,.int .u64 0,.slice none 0 0,.int .i64 0,.int .i64 0,.int .i64 0,.int .i64 0,.int .i64 0] Cp rfl (by kernel_rfl))<|sf (so h rfl rfl rfl xS rfl (.r (.r (.r (.r (.r (.r (.r (.r (.r (.r (.r (.r (.r (.r .d)))))))))))))) u1)<|?_
   rintro _ w h
   refine st (sg rfl)<|xe<|nx<|rt<|tr<|?_
   refine rr (dS results216 rfl (h.b a1) iK rfl)<|?_
   rw[QY (.inr (by omega))];exact⟨{},rfl,SH.fI _ rfl rfl (h.fr (.c r1 (.c r1 .n))).drop.drop⟩
  ·have Ua:=dR dJ
   refine cf rfl dJ<|sk<|nx<|sq<|?_
   have h:SH B w (bS 1 (.slice q.pb n.aA.length q.cb) n.aA.length (n.aA.map (Value.int .i64))::bS 2 (.slice q.pp n.aH.length q.cp) n.aH.length (n.aH.flatMap aR)::bl b2 ([.int .i64 0,.int .i64 0,.int .i64 0,.int .u64 0,.slice none 0 0,.int .u64 0,.string .empty,.int .u64 0,.slice none 0 0,.int .i64 0,.int .i64 0,.int .i64 0,.int .i64 0,.int .i64 0]) 53::bl b1 (aK n q) 53::L):=SH.se (l:=[bE n q,cP n q]) h
   refine fD [1,3,5,7,9,11,12,15,16,18] (by kernel_rfl) h (.c r3 .n) λw h=>tk (λW H=>fa Zv rfl)<|tk (λW H=>ld qD rfl (H.c a0 rfl))<|tk (λW H=>fa qX rfl)<|tk (λW H=>ld wN rfl (H.c a0 rfl))<|tk (λW H=>mv rfl)<|tk (λW H=>mv rfl)<|cs (ca eF rfl) ((aF4 n.aH _ _ key v (h.fr (.c r1 .n)) ((iW (nf.v6 (yF dM).1)).pJ (yF dM).1) (by omega)).mono ?_)
   rintro _ w ⟨q9,c10,rfl,h⟩
   refine⟨_,rfl,h.hs (.c r4 .n),?_⟩
   refine tk (λW H=>bd [.int .i64 6,.int .i64 0,.int .i64 0,.int .u64 0,.slice none 0 0,.int .u64 (n.hash:Int),.string .empty,.int .u64 0,.slice q9 ((Ct.oQ n.aH key v).length) c10,.int .i64 0,.int .i64 0,.int .i64 0,.int .i64 0,.int .i64 0] Cp rfl (by kernel_rfl))<|ff (so h rfl rfl rfl xS rfl (.r (.r (.r (.r (.r (.r (.r (.r (.r (.r (.r (.r (.r (.r .d)))))))))))))) u3)<|?_
   rintro _ w h
   refine⟨h.hs (.c r4 .n),?_⟩
   refine ef (sg rfl) (h.hs (.c r4 .n))<|xz<|nx<|rt<|?_
   refine rr (dS results216 rfl (h.b a3) iK rfl)<|?_
   rw[ON dM (by omega)]
   have h:=((h.fr (.c r3 (.c r3 .n))).drop.drop.fr (.c r0 (.c r1 (.c r0 .n))))
   have h:=SH.ofP (m:=QV n key v) h rfl
   have h:=h.fr (.c r1 (.c r1 .n))
   exact⟨⟨none,0,q9,c10⟩,rfl,(SH.is (l:=[bE n q,cP n q]) h).fr (.c r1 .n)⟩
end
variable{B w:World}{L:List As}
theorem Ky(n:Ct.Node)(pb:Option Addr)(cb:Nat)(pp:Option Addr)(cp:Nat)(key:ByteArray)(h:SH B w (aL n (⟨pb,cb,pp,cp⟩)::L))(nf:NF n)(hi:n.Tq=true):
  Calls prog 220 #[.agg (aK n (⟨pb,cb,pp,cp⟩)).toArray,↑key] w λe w'=>∃q',e=.returned (.tuple #[.agg (aK (Ct.jH n key).1 q').toArray,.bool (Ct.jH n key).2])/\SH B w' (aL (Ct.jH n key).1 q'::aL n ⟨pb,cb,pp,cp⟩::L):=by
 have nf_br:=nf.br
 have nf_pr:=nf.pr
 have nf_bm:=nf.bm
 have nf_hs:=nf.hs
 have nf_ks:=nf.ks
 have hv:=(iW (yF hi).2).pJ (yF hi).1
 have ZJ:=(Iy n.aH key hv).1
 refine cN func220 ntmps220 h λw h=>?_
 refine jX h λb1 w h=>?_
 refine jA h λb2 w h=>?_
 have h:=h.fr (.c r2 .n)
 have h:=SH.se (l:=[bE n (⟨pb,cb,pp,cp⟩),cP n (⟨pb,cb,pp,cp⟩)]) h
 refine go h λw h=>?_
 refine bQ (Bb _ _ _ _ h.to hv (by omega)) λw h=>?_
 have h:=SH.is (l:=[bE n ⟨pb,cb,pp,cp⟩,cP n ⟨pb,cb,pp,cp⟩]) (h.fr (.c r1 (.c r0 .n)))
 refine go h λw h=>?_
 refine bQ (Ye _ (⟨pb,cb,pp,cp⟩) h.to nf) λw h=>?_
 refine qc h (λcJ w h=>?_) λcJ w h=>?_
 have eB:((Ct.bN n.aH key).2)=false:=by simpa using cJ
 refine go h λw h=>?_
 refine rr (dS rfl rfl (h.b a1) Row.h rfl) ?_
 rw[aIp eB]
 have h:=(h.fr (.c r1 (.c r1 .n))).drop.drop
 exact⟨{},rfl,SH.fI _ rfl rfl h⟩
 have dM:((Ct.bN n.aH key).2)=true:=by simpa using cJ
 refine go h λw h=>?_
 have h:=SH.se (l:=[bE n (⟨pb,cb,pp,cp⟩),cP n (⟨pb,cb,pp,cp⟩)]) h
 refine go h λw h=>?_
 refine Zn (U5 _ _ _ _ h.to hv (by omega)) λq6 c7 w h=>?_
 refine qc h (λfG w h=>?_) λfG w h=>?_
 have CY:=eq_of_beq fG
 refine go h λw h=>?_
 obtain⟨DJ,o11,rfl⟩:=h.fq a0 (by omega)
 refine fD [1,3,5,7,9,11,13,15,17,19,21,22,24] (by kernel_rfl) h (.c r4 (.c r0 .n)) λw h=>go h λw h=>?_
 refine tk (λW H=>ld One.h rfl ((H.rr a1).x bJ (by decide) (j:=0) (by omega) ⟨.empty,0⟩ 0 _ rfl))<|go h λw h=>?_
 refine tk (λW H=>ld One.h rfl ((H.rr a1).x bJ (by decide) (j:=0) (by omega) ⟨.empty,0⟩ 1 _ rfl))<|go h λw h=>?_
 refine rr (dS rfl rfl (h.b a3) Row.h rfl) ?_
 rw[ZZ hi dM (by omega)]
 have h:=SH.is (l:=[bE n ⟨pb,cb,pp,cp⟩,cP n ⟨pb,cb,pp,cp⟩]) ((h.fr (.c r0 (.c r2 (.c r2 .n)))).drop.drop.drop.fr (.c r1 (.c r0 .n)))
 exact⟨{},rfl,SH.fI _ rfl rfl h⟩
 have QK:=bM fG
 refine go h λw h=>?_
 refine rr (dS rfl rfl (h.b a3) Row.h rfl) ?_
 rw[TP hi dM (by omega)]
 have h:=((h.fr (.c r3 (.c r3 .n))).drop.drop.fr (.c r0 (.c r1 (.c r0 .n))))
 have h:=SH.ofP (m:=CI n key) h rfl
 have h:=h.fr (.c r1 (.c r1 .n))
 exact⟨⟨none,0,q6,c7⟩,rfl,(SH.is (l:=[bE n ⟨pb,cb,pp,cp⟩,cP n ⟨pb,cb,pp,cp⟩]) h).fr (.c r1 .n)⟩
end Go.Q9
end
