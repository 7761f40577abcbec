/- Parts of a proof: Rz. -/
import Derived.Test.YtnhdmcipglnkfaaGreatW18
set_option linter.unusedVariables false
set_option linter.unusedSimpArgs false
set_option maxRecDepth 100000
set_option maxHeartbeats 4000000
section
namespace Go.Ct
theorem BI(n:Node)(h:n.kind=1):n.only={kind:=n.kind}:=by unfold Node.only;rw[if_pos h]
theorem Zu(n:Node)(h:n.kind=2):n.only={kind:=n.kind,gen:=n.gen,main:=n.main}:=by unfold Node.only;rw[if_neg (by omega),if_pos h]
theorem DE(n:Node)(h:n.kind=3):n.only={kind:=n.kind,aD:=n.aD,aA:=n.aA,prev:=n.prev}:=by unfold Node.only;rw[if_neg (by omega),if_neg (by omega),if_pos h]
theorem CR(n:Node)(h:n.kind=4):n.only={kind:=n.kind,hash:=n.hash,key:=n.key,value:=n.value}:=by unfold Node.only;rw[if_neg (by omega),if_neg (by omega),if_neg (by omega),if_pos h]
theorem DQ(n:Node)(h:n.kind=5):n.only={kind:=n.kind,hash:=n.hash,key:=n.key,value:=n.value,prev:=n.prev}:=by unfold Node.only;rw[if_neg (by omega),if_neg (by omega),if_neg (by omega),if_neg (by omega),if_pos h]
theorem CC(n:Node)(h:n.kind=6):n.only={kind:=n.kind,hash:=n.hash,aF:=n.aF,prev:=n.prev}:=by unfold Node.only;rw[if_neg (by omega),if_neg (by omega),if_neg (by omega),if_neg (by omega),if_neg (by omega),if_pos h]
theorem CW(n:Node)(h:n.kind=7):n.only={kind:=n.kind,dC:=n.dC}:=by unfold Node.only;rw[if_neg (by omega),if_neg (by omega),if_neg (by omega),if_neg (by omega),if_neg (by omega),if_neg (by omega),if_pos h]
theorem BB(n:Node)(h:n.kind=8):n.only={kind:=n.kind,dC:=n.dC,aK:=n.aK,new:=n.new,status:=n.status}:=by unfold Node.only;rw[if_neg (by omega),if_neg (by omega),if_neg (by omega),if_neg (by omega),if_neg (by omega),if_neg (by omega),if_neg (by omega),if_pos h]
end Go.Ct
namespace Go.E
open Go.Q9 Go.RowKit
variable{B w:World}{L:List As}
theorem SH.Zq{n m:Ct.Node}{q q':Lq}(h:SH B w L)(mm:At L (aM n q))(hb:m.aA=n.aA/\q'.pb=q.pb/\q'.cb=q.cb\/m.aA=[]/\q'.pb=none/\q'.cb=0)
  (hp:m.aF=n.aF/\q'.pp=q.pp/\q'.cp=q.cp\/m.aF=[]/\q'.pp=none/\q'.cp=0):SH B w (aM m q'::L):=h.dup mm λO R hA=>by
 obtain⟨Os,Rs,h1,h2,h3,h4⟩:=hA
 have b:=h1 0 _ rfl
 have p:=h1 1 _ rfl
 refine Ko (z:=(m,q')) ⟨?_,?_,λk hk=>?_⟩
 ·rcases hb with⟨e1,e2,e3⟩|⟨e1,e2,e3⟩
  ·show Reads w 1 (.slice q'.pb m.aA.length q'.cb) m.aA.length (m.aA.map _);rw[e1,e2,e3];exact b.1
  ·show Reads w 1 (.slice q'.pb m.aA.length q'.cb) m.aA.length (m.aA.map _);rw[e1,e2,e3];exact⟨rfl,.inl ⟨rfl,rfl⟩⟩
 ·rcases hp with⟨e1,e2,e3⟩|⟨e1,e2,e3⟩
  ·show Reads w 2 (.slice q'.pp m.aF.length q'.cp) m.aF.length (m.aF.flatMap _);rw[e1,e2,e3];exact p.1
  ·show Reads w 2 (.slice q'.pp m.aF.length q'.cp) m.aF.length (m.aF.flatMap _);rw[e1,e2,e3];exact⟨rfl,.inl ⟨rfl,rfl⟩⟩
 ·rcases hk with hk|hk
  ·rcases hb with⟨e1,e2,e3⟩|⟨e1,e2,e3⟩
   ·simp only[e1,e2,e3]at hk;exact(h4 k).2 ⟨0,by simp,(b.2.2 k).2 hk⟩
   ·simp only[e1,e2,e3]at hk;cases hk
  ·rcases hp with⟨e1,e2,e3⟩|⟨e1,e2,e3⟩
   ·simp only[e1,e2,e3]at hk;exact(h4 k).2 ⟨1,by simp,(p.2.2 k).2 hk⟩
   ·simp only[e1,e2,e3]at hk;cases hk
end Go.E
namespace Go.E
open Go.Q9 Go.RowKit
variable{B w:World}{L:List As}
theorem SH.YX{m:Ct.Node}{p:Option Addr}{c:Nat}(h:SH B w (bV 1 (.slice p m.aA.length c) m.aA.length (m.aA.map (Value.int .i64))::L))(hp:m.aF=[]):SH B w (aM m ⟨p,c,none,0⟩::L):=by
 refine SH.is (l:=[aY m ⟨p,c,none,0⟩,cH m ⟨p,c,none,0⟩]) ?_
 have h2:=(SH.GZ 2 h).fr (.c r1 (.c r0 .n))
 unfold aY cH;rw[hp];exact h2
theorem SH.ofP{m:Ct.Node}{p:Option Addr}{c:Nat}(h:SH B w (bV 2 (.slice p m.aF.length c) m.aF.length (m.aF.flatMap aR)::L))(hb:m.aA=[]):SH B w (aM m ⟨none,0,p,c⟩::L):=by
 refine SH.is (l:=[aY m ⟨none,0,p,c⟩,cH m ⟨none,0,p,c⟩]) ?_
 have h2:=SH.GZ 1 h
 unfold aY cH;rw[hb];exact h2
end Go.E
namespace Go.Q9
open Go.Proofs.Tryz
open Go.RowKit Go.E Go.Ct
attribute [local irreducible] gB wpS Go.E.X XS C jU kP fin Y U F Ca jT bl rb aU bV ex ce pu sK gK bK zK
variable{B w:World}{L:List As}
theorem JM(n:Ct.Node)(q:Lq)(h:SH B w (aM n q::L))(hk:1<=n.kind/\n.kind<=8):
  Calls prog 133 #[.agg (aL n q).toArray] w λe w'=>∃q',e=.returned (.agg (aL n.only q').toArray)/\SH B w' (aM n.only q'::aM n q::L):=by
 refine bZ func133 ntmps133 h λw h=>?_
 refine jX h λb1 w h=>?_
 refine jA h λb2 w h=>?_
 refine qc h (λhd3 w h=>?_) λhd3 w h=>?_
 refine rr (bP rfl rfl (h.b a0) Row.h) ?_
 have e1:=BI n (by have:=eq_of_beq hd3;omega)
 exact⟨{},by unfold aL;rw[e1];rfl,SH.Zq h.drop.drop .z (.inr ⟨by rw[e1],rfl,rfl⟩) (.inr ⟨by rw[e1],rfl,rfl⟩)⟩
 refine qc h (λhd6 w h=>?_) λhd6 w h=>?_
 refine rr (bP rfl rfl (h.b a0) Row.h) ?_
 have e1:=Zu n (by have:=eq_of_beq hd6;omega)
 exact⟨{},by unfold aL;rw[e1];rfl,SH.Zq h.drop.drop .z (.inr ⟨by rw[e1],rfl,rfl⟩) (.inr ⟨by rw[e1],rfl,rfl⟩)⟩
 refine qc h (λhd9 w h=>?_) λhd9 w h=>?_
 refine rr (bP rfl rfl (h.b a0) Row.h) ?_
 have e1:=DE n (by have:=eq_of_beq hd9;omega)
 exact⟨⟨q.pb,q.cb,none,0⟩,by unfold aL;rw[e1];rfl,SH.Zq h.drop.drop .z (.inl ⟨by rw[e1],rfl,rfl⟩) (.inr ⟨by rw[e1],rfl,rfl⟩)⟩
 refine qc h (λhd12 w h=>?_) λhd12 w h=>?_
 refine rr (bP rfl rfl (h.b a0) Row.h) ?_
 have e1:=CR n (by have:=eq_of_beq hd12;omega)
 exact⟨{},by unfold aL;rw[e1];rfl,SH.Zq h.drop.drop .z (.inr ⟨by rw[e1],rfl,rfl⟩) (.inr ⟨by rw[e1],rfl,rfl⟩)⟩
 refine qc h (λhd15 w h=>?_) λhd15 w h=>?_
 refine rr (bP rfl rfl (h.b a0) Row.h) ?_
 have e1:=DQ n (by have:=eq_of_beq hd15;omega)
 exact⟨{},by unfold aL;rw[e1];rfl,SH.Zq h.drop.drop .z (.inr ⟨by rw[e1],rfl,rfl⟩) (.inr ⟨by rw[e1],rfl,rfl⟩)⟩
 refine qc h (λhd18 w h=>?_) λhd18 w h=>?_
 refine rr (bP rfl rfl (h.b a0) Row.h) ?_
 have e1:=CC n (by have:=eq_of_beq hd18;omega)
 exact⟨⟨none,0,q.pp,q.cp⟩,by unfold aL;rw[e1];rfl,SH.Zq h.drop.drop .z (.inr ⟨by rw[e1],rfl,rfl⟩) (.inl ⟨by rw[e1],rfl,rfl⟩)⟩
 refine qc h (λhd21 w h=>?_) λhd21 w h=>?_
 refine rr (bP rfl rfl (h.b a0) Row.h) ?_
 have e1:=CW n (by have:=eq_of_beq hd21;omega)
 exact⟨{},by unfold aL;rw[e1];rfl,SH.Zq h.drop.drop .z (.inr ⟨by rw[e1],rfl,rfl⟩) (.inr ⟨by rw[e1],rfl,rfl⟩)⟩
 rcases dA ((n.kind:Int)==8)with hd24|hd24<;>refine go h λw h=>?_
 refine rr (bP rfl rfl (h.b a0) Row.h) ?_
 have e1:=BB n (by have:=eq_of_beq hd24;omega)
 exact⟨{},by unfold aL;rw[e1];rfl,SH.Zq h.drop.drop .z (.inr ⟨by rw[e1],rfl,rfl⟩) (.inr ⟨by rw[e1],rfl,rfl⟩)⟩
 refine rr (bP rfl rfl (h.b a0) Row.h) ?_
 exact absurd hk (by have:=dP hd3;have:=dP hd6;have:=dP hd9;have:=dP hd12;have:=dP hd15;have:=dP hd18;have:=dP hd21;have:=dP hd24;omega)
theorem RH(n:Ct.Node)(q:Lq)(hv:n.valid=true)(h:SH B w (aM n q::L)):
  Calls prog 133 #[.agg (aL n q).toArray] w λe w'=>∃q',e=.returned (.agg (aL n q').toArray)/\SH B w' (aM n q'::aM n q::L):=by
 have e1:=tG hv
 refine(JM n q h (nF hv)).mono λe w'=>?_
 rw[<- e1];exact id
theorem Ih(n:Ct.Node)(q1 q2:Lq)(h:SH B w (aM n q1::aM n q2::L))(hb:n.aA.length<=1000000000000)(hp:n.aF.length<=1000000000000):
  Calls prog 132 #[.agg (aL n q1).toArray,.agg (aL n q2).toArray] w λe w'=>e=.returned ↑true/\SH B w' (aM n q1::aM n q2::L):=by
 refine bZ func132 ntmps132 h λw h=>?_
 refine jX h λb1 w h=>?_
 refine jX h λb2 w h=>?_
 refine go h λw h=>?_
 refine go h λw h=>?_
 refine go h λw h=>?_
 refine go h λw h=>?_
 refine go h λw h=>?_
 refine go h λw h=>?_
 have h:=h.fr (.c r2 .n)
 have h:=SH.se (l:=[aY n q1,cH n q1]) h
 have h:=h.fr (.c r4 .n)
 have h:=SH.se (l:=[aY n q2,cH n q2]) h
 refine go h λw h=>?_
 refine bA (Xr _ _ _ _ _ h.to (by omega)) λw h=>?_
 refine bA (Ns _ _ _ _ _ h.to (by omega)) λw h=>?_
 refine rz ?_
 have h:=((h.fr (.c r4 (.c r4 .n))).drop.drop.fr (.c r3 (.c r1 (.c r1 (.c r0 .n)))))
 have h:=SH.is (l:=[aY n q2,cH n q2]) h
 have h:=h.fr (.c r1 (.c r1 .n))
 exact⟨by rw[(wZ _)],SH.is (l:=[aY n q1,cH n q1]) h⟩
section
attribute [local semireducible] gB wpS Go.E.X XS C jU kP fin Y U F Ca jT bl rb aU bV ex ce pu sK gK bK zK
attribute [local irreducible] gB wpS
variable{B w:World}{L:List As}
theorem yW(n:Ct.Node)(pb:Option Addr)(cb:Nat)(pp:Option Addr)(cp:Nat)(h:SH B w (aM n (⟨pb,cb,pp,cp⟩)::L))(hv:n.valid=true)(hb:n.aA.length<=1000000)(hp:n.aF.length<=1000000000000)(hm:n.aD<18446744073709551616):
  Calls prog 85 #[.agg (aL n (⟨pb,cb,pp,cp⟩)).toArray] w λe w'=>e=.returned ↑true/\SH B w' (aM n ⟨pb,cb,pp,cp⟩::L):=by
 have vf:=fJ hv
 have vf_kind:=vf.kind
 have vf_main:=vf.main
 have vf_prev:=vf.prev
 have vf_status:=vf.status
 have vf_gen:=vf.gen
 have vf_key:=vf.key
 have vf_pairs:=vf.aF
 have vf_old:=vf.dC
 have vf_desc:=vf.desc
 refine Ea (args:=[_]) func85 rfl ntmps85 rfl ?_
 refine sq<|rg<|sf (bx h rfl rfl)<|?_
 rintro _ w ⟨b1,rfl,h⟩
 refine st (sg rfl)<|xe<|nx<|sq<|sq<|dZ [1,3,5,7,9,11,13,15,17,19,21,22,24,27,29,31,33,35,37,39,41,43,45,47,49,51,53,55,57,59] (by kernel_rfl) h (.c r0 .n) λw h=>tk (λW H=>fa nN rfl)<|tk (λW H=>ld jE rfl (H.c a0 rfl))<|tk (λW H=>bi rfl rfl rfl)<|tk (λW H=>mv rfl)<|oX rfl rfl (Ab (by omega))<|tk (λW H=>fa nN rfl)<|oX rfl rfl (Ab (by omega))<|tk (λW H=>ld jE rfl (H.c a0 rfl))<|oX rfl rfl (Ab (by omega))<|tk (λW H=>bi rfl rfl rfl)<|tk (λW H=>pF rfl (Ab (by omega)) rfl)<|tk (λW H=>mv rfl)<|oX rfl rfl (Ab (by omega))<|tk (λW H=>gJ rfl (dK (H.b a0)) iR)<|oX rfl rfl (Ab (by omega))<|tk (λW H=>gJ rfl (dK (H.b a0)) iR)<|oX rfl rfl (Ab (by omega))<|cs (ca eF rfl) ((RH n (⟨pb,cb,pp,cp⟩) hv (h.fr (.c r1 .n))).mono ?_)
 rintro _ w ⟨q2,rfl,h⟩
 refine⟨_,rfl,h.hs (.c r2 .n),?_⟩
 refine oX rfl rfl (Ab (by omega))<|cs (ca eF rfl) ((Ih n _ _ (h.fr (.c r1 (.c r0 .n))) (by omega) (by omega)).mono ?_)
 rintro _ w ⟨rfl,h⟩
 refine⟨_,rfl,h.hs (.c r2 .n),?_⟩
 refine oX rfl rfl (Ab (by omega))<|tk (λW H=>nt rfl)<|tk (λW H=>pF rfl (Ab (by omega)) rfl)<|tk (λW H=>mv rfl)<|oX rfl rfl rfl<|tk (λW H=>fa Eo rfl)<|oX rfl rfl rfl<|tk (λW H=>ld Bv rfl (H.c a0 rfl))<|oX rfl rfl rfl<|tk (λW H=>bi rfl rfl rfl)<|tk (λW H=>pF rfl rfl rfl)<|tk (λW H=>mv rfl)<|oX rfl rfl (Ab (by omega))<|tk (λW H=>fa xG rfl)<|oX rfl rfl (Ab (by omega))<|tk (λW H=>ld Bv rfl (H.c a0 rfl))<|oX rfl rfl (Ab (by omega))<|tk (λW H=>bi rfl rfl rfl)<|tk (λW H=>pF rfl (Ab (by omega)) rfl)<|tk (λW H=>mv rfl)<|oX rfl rfl (Ab (by omega))<|tk (λW H=>fa xY rfl)<|oX rfl rfl (Ab (by omega))<|tk (λW H=>ld Bv rfl (H.c a0 rfl))<|oX rfl rfl (Ab (by omega))<|tk (λW H=>bi rfl rfl rfl)<|tk (λW H=>pF rfl (Ab (by omega)) rfl)<|xz<|nx<|cf rfl (Ab (by omega))<|sk<|nx<|sq<|sq<|?_
 have h:SH B w (bV 1 (.slice pb n.aA.length cb) n.aA.length (n.aA.map (Value.int .i64))::bV 2 (.slice pp n.aF.length cp) n.aF.length (n.aF.flatMap aR)::aM n q2::bl b1 (aL n (⟨pb,cb,pp,cp⟩)) 53::L):=SH.se (l:=[aY n (⟨pb,cb,pp,cp⟩),cH n (⟨pb,cb,pp,cp⟩)]) h
 refine rg<|st (fa nN rfl)<|st (ld jE rfl (h.c a3 rfl))<|xe<|nx<|bk<|sq<|rg<|st (bi rfl rfl rfl)<|st (sg rfl)<|xe<|nx<|?_
 rcases dA ((n.kind:Int)==2)with hd3|hd3
 ·have hg4:=eq_of_beq hd3
  refine ct rfl hd3<|sq<|rg<|st (fa xL rfl)<|st (ld jE rfl (h.c a3 rfl))<|st (bi rfl rfl rfl)<|st (sg rfl)<|xe<|nx<|rt<|bt<|tr<|?_
  refine rr (jP results85 rfl)<|?_
  exact⟨by rw[show (decide ((n.gen:Int)>=1))=true from mI (by omega)],SH.is (l:=[aY n ⟨pb,cb,pp,cp⟩,cH n ⟨pb,cb,pp,cp⟩]) (h.fr (.c r2 (.c r2 .n))).drop.drop⟩
 ·have hg5:=dP hd3
  refine cf rfl hd3<|sq<|rg<|st (bi rfl rfl rfl)<|st (sg rfl)<|xe<|nx<|?_
  rcases dA ((n.kind:Int)==3)with hd6|hd6
  ·have hg7:=eq_of_beq hd6
   refine ct rfl hd6<|sq<|sq<|rg<|st (sg rfl)<|xe<|nx<|bk<|?_
   refine lp (α:=Nat) (λx=>(.c 1 ↑b1 (.c 3 (.int .i64 (x:Int)) .n))) (λx w=>SH B w (bV 1 (.slice pb n.aA.length cb) n.aA.length (n.aA.map (Value.int .i64))::bV 2 (.slice pp n.aF.length cp) n.aF.length (n.aF.flatMap aR)::aM n q2::bl b1 (aL n (⟨pb,cb,pp,cp⟩)) 53::L)/\(x<=n.aA.length)) (λx=>n.aA.length-x) 0 ⟨rfl,rfl,trivial⟩ ⟨h,dF _⟩ ?_
   rintro k w ⟨h,hk⟩
   refine sq<|sq<|rg<|st (mv rfl)<|st (fa nL rfl)<|st (ld pK rfl (h.c a3 rfl))<|st (ln jG rfl rfl)<|st (bi rfl rfl rfl)<|xe<|nx<|?_
   rcases dA (decide (((k:Int):Int)<(n.aA.length:Int)))with hd8|hd8
   ·have hg9:=eC hd8
    refine ct rfl hd8<|sk<|nx<|sq<|bk<|sq<|rg<|st (fa nL rfl)<|st (ld pK rfl (h.c a3 rfl))<|st (mv rfl)<|?_
    obtain⟨b10,o11,rfl⟩:=h.fq a0 (by omega)
    refine st (ix (j:=k) jG Bh rfl rfl (by omega))<|st (ld iO rfl ((h.rr a0).i (by omega)))<|st (bi rfl rfl rfl)<|xe<|nx<|cf rfl (Ab (by have:=vf.branch (by omega) k (by omega);omega))<|sk<|bn<|nx<|rg<|st (mv rfl)<|st (bw rfl rfl (gN (c:=((k+1:Nat):Int)) (by omega) (by omega) (by omega)))<|st (sg rfl)<|xe<|nx<|?_
    exact⟨(k+1),⟨rfl,rfl,trivial⟩,⟨h,by(try dsimp only);omega⟩,by(try dsimp only);omega⟩
   ·have hg12:=cW hd8
    refine cf rfl hd8<|xt<|tx<|tx<|be<|nx<|sq<|dZ [1,3,5,7,9,10,13,14] (by kernel_rfl) h (.c r3 .n) λw h=>tk (λW H=>fa nL rfl)<|tk (λW H=>ld pK rfl (H.c a0 rfl))<|tk (λW H=>ln jG rfl rfl)<|tk (λW H=>fa tM rfl)<|tk (λW H=>ld vV rfl (H.c a0 rfl))<|cs (ca eF rfl) ((KO (b:=n.aD) (v:=Bm.pop 64 n.aD) (by omega) (Lib.hid rfl)).mono ?_)
    rintro _ _ ⟨rfl,rfl⟩
    refine⟨_,rfl,h.hs (.c r3 .n),?_⟩
    refine tk (λW H=>bi rfl rfl rfl)<|ef (sg rfl) (h.hs (.c r3 .n))<|xz<|nx<|rt<|bt<|tr<|?_
    refine rr (jP results85 rfl)<|?_
    exact⟨by rw[show (((n.aA.length:Int):Int)==((Bm.pop 64 n.aD:Nat):Int))=true from beq_iff_eq.2 (by have:=vf.count (by omega);omega)],SH.is (l:=[aY n ⟨pb,cb,pp,cp⟩,cH n ⟨pb,cb,pp,cp⟩]) (h.fr (.c r2 (.c r2 .n))).drop.drop⟩
  ·have hg13:=dP hd6
   refine cf rfl hd6<|sq<|sq<|rg<|st (bi rfl rfl rfl)<|st (sg rfl)<|xe<|nx<|?_
   rcases dA ((n.kind:Int)==4)with hd14|hd14
   ·have hg15:=eq_of_beq hd14
    refine ct rfl hd14<|sk<|nx<|ct rfl hd14<|sq<|rg<|st (fa Ep rfl)<|st (ld uK rfl (h.c a3 rfl))<|st (PA NZ rfl rfl)<|st (bi rfl rfl rfl)<|st (sg rfl)<|xe<|nx<|rt<|bt<|tr<|?_
    refine rr (jP results85 rfl)<|?_
    exact⟨by rw[show (decide (((n.key.size:Int):Int)<=64))=true from mI (by omega)],SH.is (l:=[aY n ⟨pb,cb,pp,cp⟩,cH n ⟨pb,cb,pp,cp⟩]) (h.fr (.c r2 (.c r2 .n))).drop.drop⟩
   ·have hg16:=dP hd14
    refine cf rfl hd14<|rg<|st (bi rfl rfl rfl)<|st (sg rfl)<|xe<|nx<|?_
    rcases dA ((n.kind:Int)==5)with hd17|hd17
    ·have hg18:=eq_of_beq hd17
     refine ct rfl hd17<|sq<|rg<|st (fa Ep rfl)<|st (ld uK rfl (h.c a3 rfl))<|st (PA NZ rfl rfl)<|st (bi rfl rfl rfl)<|st (sg rfl)<|xe<|nx<|rt<|bt<|tr<|?_
     refine rr (jP results85 rfl)<|?_
     exact⟨by rw[show (decide (((n.key.size:Int):Int)<=64))=true from mI (by omega)],SH.is (l:=[aY n ⟨pb,cb,pp,cp⟩,cH n ⟨pb,cb,pp,cp⟩]) (h.fr (.c r2 (.c r2 .n))).drop.drop⟩
    ·have hg19:=dP hd17
     refine cf rfl hd17<|sq<|rg<|st (bi rfl rfl rfl)<|st (sg rfl)<|xe<|nx<|?_
     rcases dA ((n.kind:Int)==6)with hd20|hd20
     ·have hg21:=eq_of_beq hd20
      refine ct rfl hd20<|sq<|rg<|st (fa qD rfl)<|st (ld qV rfl (h.c a3 rfl))<|st (ln Bi rfl rfl)<|st (bi rfl rfl rfl)<|st (mv rfl)<|gT rfl rfl (mI (by omega))<|st (fa qD rfl)<|gT rfl rfl (mI (by omega))<|st (ld qV rfl (h.c a3 rfl))<|gT rfl rfl (mI (by omega))<|cl (ca eF rfl) ((lM n.aF _ _ (h.fr (.c r1 .n)) (vf.kG (by omega)) (by omega)).mono ?_)
      rintro _ w ⟨rfl,h⟩
      refine⟨_,rfl,?_⟩
      refine st (pT rfl (mI (by omega)) rfl)<|st (mv rfl)<|gT rfl rfl rfl<|st (fa qD rfl)<|gT rfl rfl rfl<|st (ld qV rfl (h.c a3 rfl))<|gT rfl rfl rfl<|cl (ca eF rfl) ((HK n.aF _ _ (h.fr (.c r0 .n)) (vf.short (by omega)) (by omega)).mono ?_)
      rintro _ w ⟨rfl,h⟩
      refine⟨_,rfl,?_⟩
      refine st (pT rfl rfl rfl)<|st (sg rfl)<|xe<|nx<|rt<|bt<|tr<|?_
      refine rr (jP results85 rfl)<|?_
      exact⟨rfl,SH.is (l:=[aY n ⟨pb,cb,pp,cp⟩,cH n ⟨pb,cb,pp,cp⟩]) ((h.fr (.c r2 (.c r2 .n))).drop.drop.fr (.c r1 (.c r0 .n)))⟩
     ·have hg22:=dP hd20
      refine cf rfl hd20<|sq<|rg<|st (bi rfl rfl rfl)<|st (sg rfl)<|xe<|nx<|?_
      rcases dA ((n.kind:Int)==7)with hd23|hd23
      ·have hg24:=eq_of_beq hd23
       refine ct rfl hd23<|sq<|rg<|st (fa Ib rfl)<|st (ld iO rfl (h.c a3 rfl))<|st (bi rfl rfl rfl)<|st (sg rfl)<|xe<|nx<|rt<|bt<|tr<|?_
       refine rr (jP results85 rfl)<|?_
       exact⟨by rw[show (decide ((n.dC:Int)>=1))=true from mI (by omega)],SH.is (l:=[aY n ⟨pb,cb,pp,cp⟩,cH n ⟨pb,cb,pp,cp⟩]) (h.fr (.c r2 (.c r2 .n))).drop.drop⟩
      ·have hg25:=dP hd23
       refine cf rfl hd23<|sq<|rg<|st (bi rfl rfl rfl)<|st (sg rfl)<|xe<|nx<|?_
       rcases dA ((n.kind:Int)==8)with hd26|hd26
       ·have hg27:=eq_of_beq hd26
        refine ct rfl hd26<|sq<|rg<|st (fa Ib rfl)<|st (ld iO rfl (h.c a3 rfl))<|st (bi rfl rfl rfl)<|st (mv rfl)<|gT rfl rfl (mI (by omega))<|st (fa JP rfl)<|gT rfl rfl (mI (by omega))<|st (ld iO rfl (h.c a3 rfl))<|gT rfl rfl (mI (by omega))<|st (bi rfl rfl rfl)<|st (pT rfl (mI (by omega)) rfl)<|st (mv rfl)<|gT rfl rfl (mI (by omega))<|st (fa HV rfl)<|gT rfl rfl (mI (by omega))<|st (ld iO rfl (h.c a3 rfl))<|gT rfl rfl (mI (by omega))<|st (bi rfl rfl rfl)<|st (pT rfl (mI (by omega)) rfl)<|st (sg rfl)<|xe<|nx<|rt<|bt<|tr<|?_
        refine rr (jP results85 rfl)<|?_
        exact⟨by rw[show (decide ((n.new:Int)>=1))=true from mI (by omega)],SH.is (l:=[aY n ⟨pb,cb,pp,cp⟩,cH n ⟨pb,cb,pp,cp⟩]) (h.fr (.c r2 (.c r2 .n))).drop.drop⟩
       ·have hg28:=dP hd26
        refine cf rfl hd26<|sk<|bn<|nx<|sq<|rg<|st (sg rfl)<|xe<|nx<|rt<|?_
        refine rr (jP results85 rfl)<|?_
        exact⟨rfl,SH.is (l:=[aY n ⟨pb,cb,pp,cp⟩,cH n ⟨pb,cb,pp,cp⟩]) (h.fr (.c r2 (.c r2 .n))).drop.drop⟩
end
variable{B w:World}{L:List As}
theorem Pc(n:Ct.Node)(q:Lq)(h:SH B w (aM n q::L))(nf:NF n):
  Calls prog 212 #[.agg (aL n q).toArray] w λe w'=>e=.returned ↑n.lO/\SH B w' (aM n q::L):=by
 have nf_br:=nf.br
 have nf_pr:=nf.pr
 have nf_bm:=nf.bm
 have nf_hs:=nf.hs
 have nf_ks:=nf.ks
 refine bZ func212 ntmps212 h λw h=>?_
 refine jX h λb1 w h=>?_
 refine qg h (λhd2 w h=>?_) λhd2 w h=>?_
 have hg3:=eq_of_beq hd2
 refine go h λw h=>?_
 refine bA (yW _ _ _ _ _ h.to (nf.v3 (by omega)) (by omega) (by omega) (by omega)) λw h=>?_
 exact rz ⟨by rw[Pb hd2 (nf.v3 (eq_of_beq hd2))],h.to⟩
 have hg4:=dP hd2
 refine go h λw h=>?_
 exact rz ⟨by rw[NC hd2],h.drop⟩
theorem Nk(n:Ct.Node)(q:Lq)(h:SH B w (aM n q::L))(nf:NF n):
  Calls prog 245 #[.agg (aL n q).toArray] w λe w'=>e=.returned ↑n.Kx/\SH B w' (aM n q::L):=by
 have nf_br:=nf.br
 have nf_pr:=nf.pr
 have nf_bm:=nf.bm
 have nf_hs:=nf.hs
 have nf_ks:=nf.ks
 refine bZ func245 ntmps245 h λw h=>?_
 refine jX h λb1 w h=>?_
 refine qg h (λhd2 w h=>?_) λhd2 w h=>?_
 have hg3:=eq_of_beq hd2
 refine go h λw h=>?_
 refine bA (yW _ _ _ _ _ h.to (nf.v6 (by omega)) (by omega) (by omega) (by omega)) λw h=>?_
 exact rz ⟨by rw[vZ hd2 (nf.v6 (eq_of_beq hd2))],h.to⟩
 have hg4:=dP hd2
 refine go h λw h=>?_
 exact rz ⟨by rw[LW hd2],h.drop⟩
theorem fG(n:Ct.Node)(pb:Option Addr)(cb:Nat)(pp:Option Addr)(cp:Nat)(i:Int)(h:SH B w (aM n (⟨pb,cb,pp,cp⟩)::L))(nf:NF n):
  Calls prog 185 #[.agg (aL n (⟨pb,cb,pp,cp⟩)).toArray,↑i] w λe w'=>e=.returned (.tuple #[.int .i64 (Ct.aB n i).1,.bool (Ct.aB n i).2])/\SH B w' (aM n ⟨pb,cb,pp,cp⟩::L):=by
 have nf_bm:=nf.bm
 have nf_hs:=nf.hs
 have nf_ks:=nf.ks
 refine bZ func185 ntmps185 h λw h=>?_
 refine jX h λb1 w h=>?_
 refine bA (Pc _ (⟨pb,cb,pp,cp⟩) h.to nf) λw h=>?_
 refine qg h (λhd2 w h=>?_) λhd2 w h=>?_
 have hd3:n.lO=false:=by simpa using hd2
 refine go h λw h=>?_
 exact rr (gE rfl rfl rfl)<|⟨by rw[Tr hd3],h.to⟩
 have hd4:n.lO=true:=by simpa using hd2
 refine go h λw h=>?_
 refine cl (ca eF rfl) ((Ix n.aD i _ (by omega)).mono ?_)
 rintro _ _ ⟨rfl,rfl⟩
 refine⟨_,rfl,?_⟩
 refine gT rfl rfl hd2<|st (nt rfl)<|st (pF rfl hd2 rfl)<|xe<|nx<|?_
 refine go h λw h=>?_
 refine qc h (λhd5 w h=>?_) λhd5 w h=>?_
 have hd6:(Bm.has n.aD i)=false:=by simpa using hd5
 refine go h λw h=>?_
 exact rr (gE rfl rfl rfl)<|⟨by rw[Dd hd6],h.to⟩
 have hd7:(Bm.has n.aD i)=true:=by simpa using hd5
 refine go h λw h=>?_
 have h:=SH.se (l:=[aY n (⟨pb,cb,pp,cp⟩),cH n (⟨pb,cb,pp,cp⟩)]) h
 have hlt:=US hd4 hd7
 obtain⟨b8,o9,rfl⟩:=h.fq a0 (by omega)
 refine dZ [1,3,5,7,9,10,13,15,16,18] (by kernel_rfl) h (.c r2 (.c r0 .n)) λw h=>go h λw h=>?_
 refine cs (ca eF rfl) ((xH n.aD i _ (by omega)).mono ?_)
 rintro _ _ ⟨rfl,rfl⟩
 refine⟨_,rfl,h.hs (.c r2 (.c r0 .n)),?_⟩
 refine tk (λW H=>ix (j:=Bm.aO n.aD i) jG Bh rfl rfl (by omega))<|tk (λW H=>ld iO rfl ((H.rr a1).i (by omega)))<|ef (sg rfl) (h.hs (.c r2 (.c r0 .n)))<|ef (sg rfl) (h.hs (.c r2 (.c r0 .n)))<|xz<|nx<|rt<|?_
 exact rr (gE rfl rfl rfl)<|⟨by rw[MF hd4 hd7],SH.is (l:=[aY n ⟨some ⟨b8,o9,none⟩,cb,pp,cp⟩,cH n ⟨some ⟨b8,o9,none⟩,cb,pp,cp⟩]) h.to⟩
theorem rJ(n:Ct.Node)(pb:Option Addr)(cb:Nat)(pp:Option Addr)(cp:Nat)(h:SH B w (aM n (⟨pb,cb,pp,cp⟩)::L))(nf:NF n):
  Calls prog 214 #[.agg (aL n (⟨pb,cb,pp,cp⟩)).toArray] w λe w'=>e=.returned (.tuple #[.int .i64 (Ct.fF n).1,.bool (Ct.fF n).2])/\SH B w' (aM n ⟨pb,cb,pp,cp⟩::L):=by
 have nf_br:=nf.br
 have nf_pr:=nf.pr
 have nf_bm:=nf.bm
 have nf_hs:=nf.hs
 have nf_ks:=nf.ks
 refine bZ func214 ntmps214 h λw h=>?_
 refine jX h λb1 w h=>?_
 refine bA (Pc _ (⟨pb,cb,pp,cp⟩) h.to nf) λw h=>?_
 refine qg h (λhd2 w h=>?_) λhd2 w h=>?_
 have hd3:n.lO=false:=by simpa using hd2
 refine go h λw h=>?_
 exact rr (gE rfl rfl rfl)<|⟨by rw[NM hd3],h.to⟩
 have hd4:n.lO=true:=by simpa using hd2
 refine go h λw h=>?_
 refine qc h (λhd5 w h=>?_) λhd5 w h=>?_
 have hg6:=bne_iff_ne.1 hd5
 refine go h λw h=>?_
 exact rr (gE rfl rfl rfl)<|⟨by rw[OQ (by omega)],h.to⟩
 have hg7:=eS hd5
 refine go h λw h=>?_
 have h:=SH.se (l:=[aY n (⟨pb,cb,pp,cp⟩),cH n (⟨pb,cb,pp,cp⟩)]) h
 refine go h λw h=>?_
 obtain⟨b8,o9,rfl⟩:=h.fq a0 (by omega)
 refine go h λw h=>?_
 exact rr (gE rfl rfl rfl)<|⟨by rw[NY hd4 (by omega)],SH.is (l:=[aY n ⟨some ⟨b8,o9,none⟩,cb,pp,cp⟩,cH n ⟨some ⟨b8,o9,none⟩,cb,pp,cp⟩]) h.to⟩
theorem Lj(n:Ct.Node)(q:Lq)(h:SH B w (aM n q::L)):
  Calls prog 187 #[.agg (aL n q).toArray] w λe w'=>∃q',e=.returned (.tuple #[.agg (aL (Ct.aT n).1 q').toArray,.bool (Ct.aT n).2])/\SH B w' (aM (Ct.aT n).1 q'::aM n q::L):=by
 refine bZ func187 ntmps187 h λw h=>?_
 refine jX h λb1 w h=>?_
 refine jA h λb2 w h=>?_
 refine qc h (λhd3 w h=>?_) λhd3 w h=>?_
 have hg4:=bne_iff_ne.1 hd3
 refine go h λw h=>?_
 refine rr (cL rfl rfl (h.b a0) Row.h rfl) ?_
 rw[VD (by omega)];exact⟨{},rfl,SH.eE _ rfl rfl h.drop.drop⟩
 have hg5:=eS hd3
 refine go h λw h=>?_
 refine rr (cL rfl rfl (h.b a0) Row.h rfl) ?_
 rw[NW (by omega)];exact⟨{},rfl,SH.eE _ rfl rfl h.drop.drop⟩
theorem jC(n:Ct.Node)(q:Lq)(level:Int)(s:Ct.Node)(q2:Lq)(h:SH B w (aM n q::aM s q2::L))(nf:NF n):
  Calls prog 189 #[.agg (aL n q).toArray,↑level,.agg (aL s q2).toArray] w λe w'=>∃q',e=.returned (.agg (aL (Ct.bQ n level s) q').toArray)/\SH B w' (aM (Ct.bQ n level s) q'::aM n q::aM s q2::L):=by
 refine bZ func189 ntmps189 h λw h=>?_
 refine jX h λb1 w h=>?_
 refine jX h λb2 w h=>?_
 refine jA h λb3 w h=>?_
 refine bA (rJ _ _ _ _ _ h.to nf) λw h=>?_
 refine qg h (λhd4 w h=>?_) λhd4 w h=>?_
 ·refine qg h (λhd5 w h=>?_) λhd5 w h=>?_
  ·have hg6:=eC hd5
   refine go h λw h=>?_
   refine qc h (λhd7 w h=>?_) λhd7 w h=>?_
   ·have hg8:=eq_of_beq hd7
    refine go h λw h=>?_
    refine rr (bP rfl rfl (h.b a1) Row.h) ?_
    rw[LL hd4 (by omega) (by omega)];exact⟨{},rfl,SH.eE _ rfl rfl (h.fr (.c r1 (.c r1 (.c r1 .n)))).drop.drop.drop⟩
   ·have hg9:=dP hd7
    refine go h λw h=>?_
    refine rr (bP rfl rfl (h.b a1) Row.h) ?_
    rw[MD (by omega)];exact⟨q,rfl,SH.Gs (h.fr (.c r1 (.c r1 (.c r1 .n)))).drop.drop.drop .z⟩
  ·have hg10:=cW hd5
   refine go h λw h=>?_
   refine rr (bP rfl rfl (h.b a1) Row.h) ?_
   rw[OP (by omega)];exact⟨q,rfl,SH.Gs (h.fr (.c r1 (.c r1 (.c r1 .n)))).drop.drop.drop .z⟩
 ·refine rr (bP rfl rfl (h.b a1) Row.h) ?_
  rw[NO hd4];exact⟨q,rfl,SH.Gs (h.fr (.c r1 (.c r1 (.c r1 .n)))).drop.drop.drop .z⟩
section
attribute [local semireducible] gB wpS Go.E.X XS C jU kP fin Y U F Ca jT bl rb aU bV ex ce pu sK gK bK zK
attribute [local irreducible] gB wpS
variable{B w:World}{L:List As}
theorem zJ(n:Ct.Node)(qn:Lq)(i r:Int)(h:SH B w (aM n qn::L))(nf:NF n):
  Calls prog 213 #[.agg (aL n qn).toArray,↑i,↑r] w λe w'=>∃q',e=.returned (.agg (aL (Dr n i r) q').toArray)/\SH B w' (aM (Dr n i r) q'::aM n qn::L):=by
 have nf_br:=nf.br
 have nf_pr:=nf.pr
 have nf_bm:=nf.bm
 have nf_hs:=nf.hs
 have nf_ks:=nf.ks
 refine Ea (args:=[_,_,_]) func213 rfl ntmps213 rfl ?_
 refine sq<|rg<|sf (bx h rfl rfl)<|?_
 rintro _ w ⟨b1,rfl,h⟩
 refine sf (al h Ty)<|?_
 rintro _ w ⟨b2,rfl,h⟩
 refine xe<|nx<|sq<|rg<|st (bd [.int .i64 3,.int .i64 0,.int .i64 0,.int .u64 0,.slice none 0 0,.int .u64 0,.string .empty,.int .u64 0,.slice none 0 0,.int .i64 0,.int .i64 0,.int .i64 0,.int .i64 0,.int .i64 0] Ic rfl (by kernel_rfl))<|sf (al h Ty)<|?_
 rintro _ w ⟨b3,rfl,h⟩
 refine sf (so h rfl rfl rfl qH rfl (.r (.r (.r (.r (.r (.r (.r (.r (.r (.r (.r (.r (.r (.r .d)))))))))))))) u0)<|?_
 rintro _ w h
 refine xe<|nx<|sq<|sq<|rg<|st (sg rfl)<|xe<|nx<|bk<|?_
 have h:=SH.nil 44 1 h
 refine lp (α:=Nat×Nat×List Int×Nat×Option Addr×Nat) (λx=>(.c 1 ↑i (.c 2 ↑r (.c 3 ↑b1 (.c 6 ↑b2 (.c 7 ↑b3 (.c 8 (.int .i64 (x.1:Int)) .n))))))) (λx w=>SH B w (bl b3 ([.int .i64 3,.int .i64 0,.int .i64 0,.int .u64 (x.2.1:Int),.slice x.2.2.2.2.1 x.2.2.2.1 x.2.2.2.2.2,.int .u64 0,.string .empty,.int .u64 0,.slice none 0 0,.int .i64 0,.int .i64 0,.int .i64 0,.int .i64 0,.int .i64 0]) 53::aU 44 1 (.slice x.2.2.2.2.1 x.2.2.2.1 x.2.2.2.2.2) x.2.2.2.1 (x.2.2.1.map (Value.int .i64))::aM n qn::bl b1 (aL n qn) 53::bl b2 ([.int .i64 0,.int .i64 0,.int .i64 0,.int .u64 0,.slice none 0 0,.int .u64 0,.string .empty,.int .u64 0,.slice none 0 0,.int .i64 0,.int .i64 0,.int .i64 0,.int .i64 0,.int .i64 0]) 53::L)/\(x.1<=64)/\(x.2.2.1.length=x.2.2.2.1)/\(x.2.2.2.1<=x.1)/\((x.2.1,x.2.2.1)=bW n i r x.1)/\(x.2.1<18446744073709551616)) (λx=>64-x.1) (0,0,[],0,none,0) ⟨rfl,rfl,rfl,rfl,rfl,rfl,trivial⟩ ⟨(h.fr (.c r1 (.c r0 (.c r2 (.c r1 (.c r0 .n)))))),dF _,rfl,JV _,rfl,by decide⟩ ?_
 rintro⟨k,bm,out,m,q,cq⟩ w ⟨h,hk,hn,hmk,hW,hbm⟩
 dsimp only at *
 refine sq<|sq<|rg<|st (mv rfl)<|st (bi rfl rfl rfl)<|xe<|nx<|?_
 rcases dA (decide (((k:Int):Int)<64))with hd4|hd4
 ·have hg5:=eC hd4
  refine ct rfl hd4<|sk<|nx<|sq<|bk<|sq<|rg<|st (gJ rfl (dK (h.b a3)) iR)<|st (mv rfl)<|cl (ca eF rfl) ((fG n qn.pb qn.cb qn.pp qn.cp (k:Int) (h.fr (.c r2 .n)) nf).mono ?_)
  rintro _ w ⟨rfl,h⟩
  refine⟨_,rfl,?_⟩
  refine st (mv rfl)<|st (xr rfl rfl)<|st (xr rfl rfl)<|st (sg rfl)<|st (sg rfl)<|xe<|nx<|sq<|sq<|rg<|st (mv rfl)<|st (mv rfl)<|st (bi rfl rfl rfl)<|xe<|nx<|?_
  rcases dA (((k:Int):Int)==i)with hd6|hd6
  ·have hg7:=eq_of_beq hd6
   refine ct rfl hd6<|rg<|st (mv rfl)<|st (mv rfl)<|st (bi rfl rfl rfl)<|st (sg rfl)<|st (sg rfl)<|xe<|nx<|sq<|rg<|st (mv rfl)<|xe<|nx<|?_
   rcases dA (decide ((r:Int)>0))with hd8|hd8
   ·have hg9:=eC hd8
    refine ct rfl hd8<|ZZ (F:=[ce b3 3 (.int .u64 (bm:Int)),ce b3 4 (.slice q m cq)]) [1,3,5,9,11,13] 3 7 [(true,[19,14,16]),(false,[20,23,24])] [(true,[6,19,16]),(false,[20,23,24])] (by kernel_rfl) h (λw h=>(hC (h.pS a1 rfl) (hC (h.pS a1 rfl) hN))) λw h=>tk (λW H=>fa tM rfl)<|tk (λW H=>ld vV rfl (H.ce a0))<|tk (λW H=>mv rfl)<|tk (λW H=>fa nL rfl)<|tk (λW H=>ld pK rfl (H.ce a1))<|tk (λW H=>mv rfl)<|l5 ?_ ?_
    ·refine cs (ca eF rfl) ((lT bm (k:Int) _ (by omega)).mono ?_)
     rintro _ _ ⟨rfl,rfl⟩
     refine⟨_,rfl,(hC (h.pS a1 rfl) (hC (h.pS a1 rfl) hN)),?_⟩
     refine UW<|tk (λW H=>fa tM rfl)<|ff (bu [↑r] h jG Ax rfl (by kernel_rfl) rfl (by decide) (by decide))<|?_
     rintro _ w ⟨b10,rfl,h⟩
     refine⟨(hC (h.pS a2 rfl) (hC (h.pS a2 rfl) hN)),?_⟩
     refine ff (ap h jG rfl Ax rfl (by decide) rfl rfl (λ_=>u3) (h.ro a0) (by simp[Value.oneCell']) rfl (gI _ _) (by unfold maxLen;omega) (by omega))<|?_
     rintro _ w ⟨p11,c12,rfl,h⟩
     refine⟨(hC (h.pS a2 rfl) (hC (h.pS a2 rfl) hN)),?_⟩
     refine Zp<|ff (so h rfl rfl rfl RQ rfl (.s (.s (.s (.r .d)))) u2)<|?_
     rintro _ w h
     refine⟨trivial,?_⟩
     refine tk (λW H=>fa nL rfl)<|ff (so h rfl rfl rfl AW rfl (.s (.s (.s (.s (.r .d))))) u2)<|?_
     rintro _ w h
     refine⟨trivial,?_⟩
     refine xz<|bn<|nx<|rg<|st (mv rfl)<|st (bw rfl rfl (gN (c:=((k+1:Nat):Int)) (by omega) (by omega) (by omega)))<|st (sg rfl)<|xe<|nx<|?_
     exact⟨(k+1,Bm.cI bm (k:Int),out++[r],m+1,p11,c12),⟨rfl,rfl,rfl,rfl,rfl,rfl,trivial⟩,⟨(h.drop.fr (.c r1 (.c r1 (.c r0 (.c r0 (.c r0 .n)))))),by(try dsimp only);omega,by simp[hn],by(try dsimp only);omega,VN hd6 hd8 hW,Bm.iM _ _ hbm⟩,by(try dsimp only);omega⟩
    ·refine ff (bu [↑r] h jG Ax rfl (by kernel_rfl) rfl (by decide) (by decide))<|?_
     rintro _ w ⟨b13,rfl,h⟩
     refine⟨(hC (h.pS a2 rfl) (hC (h.pS a2 rfl) hN)),?_⟩
     refine UW<|cs (ca eF rfl) ((lT bm (k:Int) _ (by omega)).mono ?_)
     rintro _ _ ⟨rfl,rfl⟩
     refine⟨_,rfl,(hC (h.pS a2 rfl) (hC (h.pS a2 rfl) hN)),?_⟩
     refine tk (λW H=>fa tM rfl)<|ff (ap h jG rfl Ax rfl (by decide) rfl rfl (λ_=>u3) (h.ro a0) (by simp[Value.oneCell']) rfl (gI _ _) (by unfold maxLen;omega) (by omega))<|?_
     rintro _ w ⟨p14,c15,rfl,h⟩
     refine⟨(hC (h.pS a2 rfl) (hC (h.pS a2 rfl) hN)),?_⟩
     refine Zp<|ff (so h rfl rfl rfl RQ rfl (.s (.s (.s (.r .d)))) u2)<|?_
     rintro _ w h
     refine⟨trivial,?_⟩
     refine tk (λW H=>fa nL rfl)<|ff (so h rfl rfl rfl AW rfl (.s (.s (.s (.s (.r .d))))) u2)<|?_
     rintro _ w h
     refine⟨trivial,?_⟩
     refine xz<|bn<|nx<|rg<|st (mv rfl)<|st (bw rfl rfl (gN (c:=((k+1:Nat):Int)) (by omega) (by omega) (by omega)))<|st (sg rfl)<|xe<|nx<|?_
     exact⟨(k+1,Bm.cI bm (k:Int),out++[r],m+1,p14,c15),⟨rfl,rfl,rfl,rfl,rfl,rfl,trivial⟩,⟨(h.drop.fr (.c r1 (.c r1 (.c r0 (.c r0 (.c r0 .n)))))),by(try dsimp only);omega,by simp[hn],by(try dsimp only);omega,VN hd6 hd8 hW,Bm.iM _ _ hbm⟩,by(try dsimp only);omega⟩
   ·have hg16:=cW hd8
    refine cf rfl hd8<|sk<|bn<|nx<|rg<|st (mv rfl)<|st (bw rfl rfl (gN (c:=((k+1:Nat):Int)) (by omega) (by omega) (by omega)))<|st (sg rfl)<|xe<|nx<|?_
    exact⟨(k+1,bm,out,m,q,cq),⟨rfl,rfl,rfl,rfl,rfl,rfl,trivial⟩,⟨(h.fr (.c r1 (.c r1 (.c r0 (.c r0 (.c r0 .n)))))),by(try dsimp only);omega,hn,by(try dsimp only);omega,g8 hd6 hd8 hW,hbm⟩,by(try dsimp only);omega⟩
  ·have hg17:=dP hd6
   refine cf rfl hd6<|sk<|nx<|sq<|rg<|st (mv rfl)<|xe<|nx<|?_
   rcases dA ((Ct.aB n (k:Int)).2)with hd18|hd18
   ·refine ct rfl hd18<|ZZ (F:=[ce b3 3 (.int .u64 (bm:Int)),ce b3 4 (.slice q m cq)]) [1,3,5,9,11,13] 3 7 [(true,[19,14,16]),(false,[20,23,24])] [(true,[6,19,16]),(false,[20,23,24])] (by kernel_rfl) h (λw h=>(hC (h.pS a1 rfl) (hC (h.pS a1 rfl) hN))) λw h=>tk (λW H=>fa tM rfl)<|tk (λW H=>ld vV rfl (H.ce a0))<|tk (λW H=>mv rfl)<|tk (λW H=>fa nL rfl)<|tk (λW H=>ld pK rfl (H.ce a1))<|tk (λW H=>mv rfl)<|l5 ?_ ?_
    ·refine cs (ca eF rfl) ((lT bm (k:Int) _ (by omega)).mono ?_)
     rintro _ _ ⟨rfl,rfl⟩
     refine⟨_,rfl,(hC (h.pS a1 rfl) (hC (h.pS a1 rfl) hN)),?_⟩
     refine UW<|tk (λW H=>fa tM rfl)<|ff (bu [.int .i64 ((Ct.aB n (k:Int)).1)] h jG Ax rfl (by kernel_rfl) rfl (by decide) (by decide))<|?_
     rintro _ w ⟨b19,rfl,h⟩
     refine⟨(hC (h.pS a2 rfl) (hC (h.pS a2 rfl) hN)),?_⟩
     refine ff (ap h jG rfl Ax rfl (by decide) rfl rfl (λ_=>u3) (h.ro a0) (by simp[Value.oneCell']) rfl (gI _ _) (by unfold maxLen;omega) (by omega))<|?_
     rintro _ w ⟨p20,c21,rfl,h⟩
     refine⟨(hC (h.pS a2 rfl) (hC (h.pS a2 rfl) hN)),?_⟩
     refine Zp<|ff (so h rfl rfl rfl RQ rfl (.s (.s (.s (.r .d)))) u2)<|?_
     rintro _ w h
     refine⟨trivial,?_⟩
     refine tk (λW H=>fa nL rfl)<|ff (so h rfl rfl rfl AW rfl (.s (.s (.s (.s (.r .d))))) u2)<|?_
     rintro _ w h
     refine⟨trivial,?_⟩
     refine xz<|bn<|nx<|rg<|st (mv rfl)<|st (bw rfl rfl (gN (c:=((k+1:Nat):Int)) (by omega) (by omega) (by omega)))<|st (sg rfl)<|xe<|nx<|?_
     exact⟨(k+1,Bm.cI bm (k:Int),out++[(Ct.aB n (k:Int)).1],m+1,p20,c21),⟨rfl,rfl,rfl,rfl,rfl,rfl,trivial⟩,⟨(h.drop.fr (.c r1 (.c r1 (.c r0 (.c r0 (.c r0 .n)))))),by(try dsimp only);omega,by simp[hn],by(try dsimp only);omega,UQ hd6 hd18 hW,Bm.iM _ _ hbm⟩,by(try dsimp only);omega⟩
    ·refine ff (bu [.int .i64 ((Ct.aB n (k:Int)).1)] h jG Ax rfl (by kernel_rfl) rfl (by decide) (by decide))<|?_
     rintro _ w ⟨b22,rfl,h⟩
     refine⟨(hC (h.pS a2 rfl) (hC (h.pS a2 rfl) hN)),?_⟩
     refine UW<|cs (ca eF rfl) ((lT bm (k:Int) _ (by omega)).mono ?_)
     rintro _ _ ⟨rfl,rfl⟩
     refine⟨_,rfl,(hC (h.pS a2 rfl) (hC (h.pS a2 rfl) hN)),?_⟩
     refine tk (λW H=>fa tM rfl)<|ff (ap h jG rfl Ax rfl (by decide) rfl rfl (λ_=>u3) (h.ro a0) (by simp[Value.oneCell']) rfl (gI _ _) (by unfold maxLen;omega) (by omega))<|?_
     rintro _ w ⟨p23,c24,rfl,h⟩
     refine⟨(hC (h.pS a2 rfl) (hC (h.pS a2 rfl) hN)),?_⟩
     refine Zp<|ff (so h rfl rfl rfl RQ rfl (.s (.s (.s (.r .d)))) u2)<|?_
     rintro _ w h
     refine⟨trivial,?_⟩
     refine tk (λW H=>fa nL rfl)<|ff (so h rfl rfl rfl AW rfl (.s (.s (.s (.s (.r .d))))) u2)<|?_
     rintro _ w h
     refine⟨trivial,?_⟩
     refine xz<|bn<|nx<|rg<|st (mv rfl)<|st (bw rfl rfl (gN (c:=((k+1:Nat):Int)) (by omega) (by omega) (by omega)))<|st (sg rfl)<|xe<|nx<|?_
     exact⟨(k+1,Bm.cI bm (k:Int),out++[(Ct.aB n (k:Int)).1],m+1,p23,c24),⟨rfl,rfl,rfl,rfl,rfl,rfl,trivial⟩,⟨(h.drop.fr (.c r1 (.c r1 (.c r0 (.c r0 (.c r0 .n)))))),by(try dsimp only);omega,by simp[hn],by(try dsimp only);omega,UQ hd6 hd18 hW,Bm.iM _ _ hbm⟩,by(try dsimp only);omega⟩
   ·refine cf rfl hd18<|sk<|bn<|nx<|rg<|st (mv rfl)<|st (bw rfl rfl (gN (c:=((k+1:Nat):Int)) (by omega) (by omega) (by omega)))<|st (sg rfl)<|xe<|nx<|?_
    exact⟨(k+1,bm,out,m,q,cq),⟨rfl,rfl,rfl,rfl,rfl,rfl,trivial⟩,⟨(h.fr (.c r1 (.c r1 (.c r0 (.c r0 (.c r0 .n)))))),by(try dsimp only);omega,hn,by(try dsimp only);omega,ZX hd6 hd18 hW,hbm⟩,by(try dsimp only);omega⟩
 ·have hg25:=cW hd4
  refine cf rfl hd4<|xt<|tx<|tx<|be<|nx<|sq<|rg<|st (gJ rfl (dK (h.b a0)) iR)<|sf (so h rfl rfl rfl qH rfl (.r (.r (.r (.r (.r (.r (.r (.r (.r (.r (.r (.r (.r (.r .d)))))))))))))) u4)<|?_
  rintro _ w h
  refine xe<|nx<|rt<|?_
  refine rr (bP results213 rfl (h.b a4) iR)<|?_
  obtain rfl:k=64:=by omega
  have e1:bm=(bW n i r 64).1:=by rw[<- hW]
  have e2:out=(bW n i r 64).2:=by rw[<- hW]
  subst hn;subst e1;subst e2
  exact⟨⟨q,cq,none,0⟩,rfl,SH.YX (m:=Dr n i r) ((h.fr (.c r0 (.c r2 (.c r2 .n)))).drop.drop.drop).fz rfl⟩
end
variable{B w:World}{L:List As}
theorem qU(n:Ct.Node)(q:Lq)(i r:Int)(h:SH B w (aM n q::L))(nf:NF n):
  Calls prog 218 #[.agg (aL n q).toArray,↑i,↑r] w λe w'=>∃q',e=.returned (.tuple #[.agg (aL (Ct.aS n i r).1 q').toArray,.bool (Ct.aS n i r).2])/\SH B w' (aM (Ct.aS n i r).1 q'::aM n q::L):=by
 have nf_br:=nf.br
 have nf_pr:=nf.pr
 have nf_bm:=nf.bm
 have nf_hs:=nf.hs
 have nf_ks:=nf.ks
 refine bZ func218 ntmps218 h λw h=>?_
 refine jX h λb1 w h=>?_
 refine jA h λb2 w h=>?_
 refine bA (fG _ _ _ _ _ _ h.to nf) λw h=>?_
 refine bA (Pc _ _ h.to nf) λw h=>?_
 refine qg h (λhd3 w h=>?_) λhd3 w h=>?_
 have hd4:n.lO=false:=by simpa using hd3
 refine go h λw h=>?_
 refine rr (cL rfl rfl (h.b a1) Row.h rfl) ?_
 rw[Kg (.inl hd4)];exact⟨{},rfl,SH.eE _ rfl rfl (h.fr (.c r1 (.c r1 .n))).drop.drop⟩
 have hd5:n.lO=true:=by simpa using hd3
 refine go h λw h=>?_
 refine qg h (λhd6 w h=>?_) λhd6 w h=>?_
 refine rr (cL rfl rfl (h.b a1) Row.h rfl) ?_
 rw[Kg (.inr (.inl hd6))];exact⟨{},rfl,SH.eE _ rfl rfl (h.fr (.c r1 (.c r1 .n))).drop.drop⟩
 refine qg h (λhd7 w h=>?_) λhd7 w h=>?_
 have hg8:=eC hd7
 refine go h λw h=>?_
 refine rr (cL rfl rfl (h.b a1) Row.h rfl) ?_
 rw[Kg (.inr (.inr (by omega)))];exact⟨{},rfl,SH.eE _ rfl rfl (h.fr (.c r1 (.c r1 .n))).drop.drop⟩
 have hg9:=cW hd7
 refine go h λw h=>?_
 refine qg h (λhd10 w h=>?_) λhd10 w h=>?_
 have hg11:=eC hd10
 refine go h λw h=>?_
 refine rr (cL rfl rfl (h.b a1) Row.h rfl) ?_
 rw[Kg (.inr (.inr (by omega)))];exact⟨{},rfl,SH.eE _ rfl rfl (h.fr (.c r1 (.c r1 .n))).drop.drop⟩
 have hg12:=cW hd10
 refine go h λw h=>?_
 refine qc h (λhd13 w h=>?_) λhd13 w h=>?_
 have hg14:=eC hd13
 refine go h λw h=>?_
 refine rr (cL rfl rfl (h.b a1) Row.h rfl) ?_
 rw[Kg (.inr (.inr (by omega)))];exact⟨{},rfl,SH.eE _ rfl rfl (h.fr (.c r1 (.c r1 .n))).drop.drop⟩
 have hg15:=cW hd13
 refine go h λw h=>?_
 refine cG (zJ _ _ _ _ h.to nf) λq16 w h=>?_
 refine rr (cL rfl rfl (h.b a2) Row.h rfl) ?_
 rw[vB nf.bm hd5 hd6 (by omega) (by omega) (by omega)];exact⟨q16,rfl,(h.fr (.c r2 (.c r2 .n))).drop.drop⟩
theorem Bc(n:Ct.Node)(q:Lq)(i r:Int)(h:SH B w (aM n q::L))(nf:NF n):
  Calls prog 188 #[.agg (aL n q).toArray,↑i,↑r] w λe w'=>∃q',e=.returned (.tuple #[.agg (aL (Ct.aP n i r).1 q').toArray,.bool (Ct.aP n i r).2])/\SH B w' (aM (Ct.aP n i r).1 q'::aM n q::L):=by
 have nf_br:=nf.br
 have nf_pr:=nf.pr
 have nf_bm:=nf.bm
 have nf_hs:=nf.hs
 have nf_ks:=nf.ks
 refine bZ func188 ntmps188 h λw h=>?_
 refine jX h λb1 w h=>?_
 refine jA h λb2 w h=>?_
 refine bA (fG _ _ _ _ _ _ h.to nf) λw h=>?_
 refine qg h (λhd3 w h=>?_) λhd3 w h=>?_
 have hd4:((Ct.aB n i).2)=false:=by simpa using hd3
 refine go h λw h=>?_
 refine rr (cL rfl rfl (h.b a1) Row.h rfl) ?_
 rw[MJ (.inl hd4)];exact⟨{},rfl,SH.eE _ rfl rfl (h.fr (.c r1 (.c r1 .n))).drop.drop⟩
 have hd5:((Ct.aB n i).2)=true:=by simpa using hd3
 refine go h λw h=>?_
 refine qc h (λhd6 w h=>?_) λhd6 w h=>?_
 have hg7:=eC hd6
 refine go h λw h=>?_
 refine rr (cL rfl rfl (h.b a1) Row.h rfl) ?_
 rw[MJ (.inr (by omega))];exact⟨{},rfl,SH.eE _ rfl rfl (h.fr (.c r1 (.c r1 .n))).drop.drop⟩
 have hg8:=cW hd6
 refine go h λw h=>?_
 refine cG (zJ _ _ _ _ h.to nf) λq9 w h=>?_
 refine rr (cL rfl rfl (h.b a2) Row.h rfl) ?_
 rw[qQ nf.bm hd5 (by omega)];exact⟨q9,rfl,(h.fr (.c r2 (.c r2 .n))).drop.drop⟩
theorem oL(n:Ct.Node)(q:Lq)(i:Int)(h:SH B w (aM n q::L))(nf:NF n):
  Calls prog 221 #[.agg (aL n q).toArray,↑i] w λe w'=>∃q',e=.returned (.tuple #[.agg (aL (Ct.bL n i).1 q').toArray,.bool (Ct.bL n i).2])/\SH B w' (aM (Ct.bL n i).1 q'::aM n q::L):=by
 have nf_br:=nf.br
 have nf_pr:=nf.pr
 have nf_bm:=nf.bm
 have nf_hs:=nf.hs
 have nf_ks:=nf.ks
 refine bZ func221 ntmps221 h λw h=>?_
 refine jX h λb1 w h=>?_
 refine jA h λb2 w h=>?_
 refine bA (fG _ _ _ _ _ _ h.to nf) λw h=>?_
 refine qc h (λhd3 w h=>?_) λhd3 w h=>?_
 ·have hd4:((Ct.aB n i).2)=false:=by simpa using hd3
  refine go h λw h=>?_
  refine rr (cL rfl rfl (h.b a1) Row.h rfl) ?_
  rw[XG hd4];exact⟨{},rfl,SH.eE _ rfl rfl (h.fr (.c r1 (.c r1 .n))).drop.drop⟩
 ·have hd5:((Ct.aB n i).2)=true:=by simpa using hd3
  refine go h λw h=>?_
  refine cG (zJ _ _ _ _ h.to nf) λq6 w h=>?_
  refine rr (cL rfl rfl (h.b a2) Row.h rfl) ?_
  rw[xV nf.bm hd5];exact⟨q6,rfl,(h.fr (.c r2 (.c r2 .n))).drop.drop⟩
section
attribute [local semireducible] gB wpS Go.E.X XS C jU kP fin Y U F Ca jT bl rb aU bV ex ce pu sK gK bK zK
attribute [local irreducible] gB wpS
variable{B w:World}{L:List As}
theorem CB(n:Ct.Node)(q:Lq)(key:ByteArray)(v:Nat)(h:SH B w (aM n q::L))(nf:NF n):
  Calls prog 216 #[.agg (aL n q).toArray,↑key,.int .u64 (v:Int)] w λe w'=>∃q',e=.returned (.tuple #[.agg (aL (Ct.grown n key v).1 q').toArray,.bool (Ct.grown n key v).2])/\SH B w' (aM (Ct.grown n key v).1 q'::aM n q::L):=by
 have nf_br:=nf.br
 have nf_pr:=nf.pr
 have nf_bm:=nf.bm
 have nf_hs:=nf.hs
 have nf_ks:=nf.ks
 refine Ea (args:=[_,_,_]) func216 rfl ntmps216 rfl ?_
 refine sq<|rg<|sf (bx h rfl rfl)<|?_
 rintro _ w ⟨b1,rfl,h⟩
 refine sf (al h Ty)<|?_
 rintro _ w ⟨b2,rfl,h⟩
 refine st (sg rfl)<|xe<|nx<|sq<|sq<|rg<|st (gJ rfl (dK (h.b a1)) iR)<|cl (ca eF rfl) ((Nk n q (h.fr (.c r2 .n)) nf).mono ?_)
 rintro _ w ⟨rfl,h⟩
 refine⟨_,rfl,?_⟩
 refine st (nt rfl)<|st (mv rfl)<|?_
 rcases dA (!n.Kx)with hd3|hd3
 ·have hd4:n.Kx=false:=by simpa using hd3
  refine gF rfl rfl hd3<|gF rfl rfl hd3<|gF rfl rfl hd3<|st (pT rfl hd3 rfl)<|xe<|nx<|cT rfl<|sq<|rg<|st (bd [.int .i64 0,.int .i64 0,.int .i64 0,.int .u64 0,.slice none 0 0,.int .u64 0,.string .empty,.int .u64 0,.slice none 0 0,.int .i64 0,.int .i64 0,.int .i64 0,.int .i64 0,.int .i64 0] Ic rfl (by kernel_rfl))<|sf (so h rfl rfl rfl qH rfl (.r (.r (.r (.r (.r (.r (.r (.r (.r (.r (.r (.r (.r (.r .d)))))))))))))) u1)<|?_
  rintro _ w h
  refine st (sg rfl)<|xe<|nx<|rt<|tr<|?_
  refine rr (cL results216 rfl (h.b a1) iR rfl)<|?_
  rw[GD (.inl hd4)];exact⟨{},rfl,SH.eE _ rfl rfl (h.fr (.c r1 (.c r1 .n))).drop.drop⟩
 ·have hd5:n.Kx=true:=by simpa using hd3
  refine gT rfl rfl hd3<|st (mv rfl)<|gT rfl rfl hd3<|st (PA NZ rfl rfl)<|gT rfl rfl hd3<|st (bi rfl rfl rfl)<|st (pF rfl hd3 rfl)<|xe<|nx<|?_
  rcases dA (decide (((key.size:Int):Int)>64))with hd6|hd6
  ·have hg7:=eC hd6
   refine ct rfl hd6<|sq<|rg<|st (bd [.int .i64 0,.int .i64 0,.int .i64 0,.int .u64 0,.slice none 0 0,.int .u64 0,.string .empty,.int .u64 0,.slice none 0 0,.int .i64 0,.int .i64 0,.int .i64 0,.int .i64 0,.int .i64 0] Ic rfl (by kernel_rfl))<|sf (so h rfl rfl rfl qH rfl (.r (.r (.r (.r (.r (.r (.r (.r (.r (.r (.r (.r (.r (.r .d)))))))))))))) u1)<|?_
   rintro _ w h
   refine st (sg rfl)<|xe<|nx<|rt<|tr<|?_
   refine rr (cL results216 rfl (h.b a1) iR rfl)<|?_
   rw[GD (.inr (by omega))];exact⟨{},rfl,SH.eE _ rfl rfl (h.fr (.c r1 (.c r1 .n))).drop.drop⟩
  ·have hg8:=cW hd6
   refine cf rfl hd6<|sk<|nx<|sq<|?_
   have h:SH B w (bV 1 (.slice q.pb n.aA.length q.cb) n.aA.length (n.aA.map (Value.int .i64))::bV 2 (.slice q.pp n.aF.length q.cp) n.aF.length (n.aF.flatMap aR)::bl b2 ([.int .i64 0,.int .i64 0,.int .i64 0,.int .u64 0,.slice none 0 0,.int .u64 0,.string .empty,.int .u64 0,.slice none 0 0,.int .i64 0,.int .i64 0,.int .i64 0,.int .i64 0,.int .i64 0]) 53::bl b1 (aL n q) 53::L):=SH.se (l:=[aY n q,cH n q]) h
   refine dZ [1,3,5,7,9,11,12,15,16,18] (by kernel_rfl) h (.c r3 .n) λw h=>tk (λW H=>fa P9 rfl)<|tk (λW H=>ld vV rfl (H.c a0 rfl))<|tk (λW H=>fa qD rfl)<|tk (λW H=>ld qV rfl (H.c a0 rfl))<|tk (λW H=>mv rfl)<|tk (λW H=>mv rfl)<|cs (ca eF rfl) ((WR n.aF _ _ key v (h.fr (.c r1 .n)) ((fJ (nf.v6 (vF hd5).1)).kG (vF hd5).1) (by omega)).mono ?_)
   rintro _ w ⟨q9,c10,rfl,h⟩
   refine⟨_,rfl,h.hs (.c r4 .n),?_⟩
   refine tk (λW H=>bd [.int .i64 6,.int .i64 0,.int .i64 0,.int .u64 0,.slice none 0 0,.int .u64 (n.hash:Int),.string .empty,.int .u64 0,.slice q9 ((Ct.mC n.aF key v).length) c10,.int .i64 0,.int .i64 0,.int .i64 0,.int .i64 0,.int .i64 0] Ic rfl (by kernel_rfl))<|ff (so h rfl rfl rfl qH rfl (.r (.r (.r (.r (.r (.r (.r (.r (.r (.r (.r (.r (.r (.r .d)))))))))))))) u3)<|?_
   rintro _ w h
   refine⟨h.hs (.c r4 .n),?_⟩
   refine ef (sg rfl) (h.hs (.c r4 .n))<|xz<|nx<|rt<|?_
   refine rr (cL results216 rfl (h.b a3) iR rfl)<|?_
   rw[AO hd5 (by omega)]
   have h:=((h.fr (.c r3 (.c r3 .n))).drop.drop.fr (.c r0 (.c r1 (.c r0 .n))))
   have h:=SH.ofP (m:=FP n key v) h rfl
   have h:=h.fr (.c r1 (.c r1 .n))
   exact⟨⟨none,0,q9,c10⟩,rfl,(SH.is (l:=[aY n q,cH n q]) h).fr (.c r1 .n)⟩
end
variable{B w:World}{L:List As}
theorem qL(n:Ct.Node)(pb:Option Addr)(cb:Nat)(pp:Option Addr)(cp:Nat)(key:ByteArray)(h:SH B w (aM n (⟨pb,cb,pp,cp⟩)::L))(nf:NF n)(hi:n.Kx=true):
  Calls prog 220 #[.agg (aL n (⟨pb,cb,pp,cp⟩)).toArray,↑key] w λe w'=>∃q',e=.returned (.tuple #[.agg (aL (Ct.gC n key).1 q').toArray,.bool (Ct.gC n key).2])/\SH B w' (aM (Ct.gC n key).1 q'::aM n ⟨pb,cb,pp,cp⟩::L):=by
 have nf_br:=nf.br
 have nf_pr:=nf.pr
 have nf_bm:=nf.bm
 have nf_hs:=nf.hs
 have nf_ks:=nf.ks
 have hv:=(fJ (vF hi).2).kG (vF hi).1
 have hdl:=(Dp n.aF key hv).1
 refine bZ func220 ntmps220 h λw h=>?_
 refine jX h λb1 w h=>?_
 refine jA h λb2 w h=>?_
 have h:=h.fr (.c r2 .n)
 have h:=SH.se (l:=[aY n (⟨pb,cb,pp,cp⟩),cH n (⟨pb,cb,pp,cp⟩)]) h
 refine go h λw h=>?_
 refine bA (oY _ _ _ _ h.to hv (by omega)) λw h=>?_
 have h:=SH.is (l:=[aY n ⟨pb,cb,pp,cp⟩,cH n ⟨pb,cb,pp,cp⟩]) (h.fr (.c r1 (.c r0 .n)))
 refine go h λw h=>?_
 refine bA (Nk _ (⟨pb,cb,pp,cp⟩) h.to nf) λw h=>?_
 refine qc h (λhd3 w h=>?_) λhd3 w h=>?_
 have hd4:((Ct.bB n.aF key).2)=false:=by simpa using hd3
 refine go h λw h=>?_
 refine rr (cL rfl rfl (h.b a1) Row.h rfl) ?_
 rw[j9 hd4]
 have h:=(h.fr (.c r1 (.c r1 .n))).drop.drop
 exact⟨{},rfl,SH.eE _ rfl rfl h⟩
 have hd5:((Ct.bB n.aF key).2)=true:=by simpa using hd3
 refine go h λw h=>?_
 have h:=SH.se (l:=[aY n (⟨pb,cb,pp,cp⟩),cH n (⟨pb,cb,pp,cp⟩)]) h
 refine go h λw h=>?_
 refine Sd (SW _ _ _ _ h.to hv (by omega)) λq6 c7 w h=>?_
 refine qc h (λhd8 w h=>?_) λhd8 w h=>?_
 have hg9:=eq_of_beq hd8
 refine go h λw h=>?_
 obtain⟨b10,o11,rfl⟩:=h.fq a0 (by omega)
 refine dZ [1,3,5,7,9,11,13,15,17,19,21,22,24] (by kernel_rfl) h (.c r4 (.c r0 .n)) λw h=>go h λw h=>?_
 refine tk (λW H=>ld One.h rfl ((H.rr a1).x bH (by decide) (j:=0) (by omega) ⟨.empty,0⟩ 0 _ rfl))<|go h λw h=>?_
 refine tk (λW H=>ld One.h rfl ((H.rr a1).x bH (by decide) (j:=0) (by omega) ⟨.empty,0⟩ 1 _ rfl))<|go h λw h=>?_
 refine rr (cL rfl rfl (h.b a3) Row.h rfl) ?_
 rw[NK hi hd5 (by omega)]
 have h:=SH.is (l:=[aY n ⟨pb,cb,pp,cp⟩,cH n ⟨pb,cb,pp,cp⟩]) ((h.fr (.c r0 (.c r2 (.c r2 .n)))).drop.drop.drop.fr (.c r1 (.c r0 .n)))
 exact⟨{},rfl,SH.eE _ rfl rfl h⟩
 have hg12:=dP hd8
 refine go h λw h=>?_
 refine rr (cL rfl rfl (h.b a3) Row.h rfl) ?_
 rw[EE hi hd5 (by omega)]
 have h:=((h.fr (.c r3 (.c r3 .n))).drop.drop.fr (.c r0 (.c r1 (.c r0 .n))))
 have h:=SH.ofP (m:=Pm n key) h rfl
 have h:=h.fr (.c r1 (.c r1 .n))
 exact⟨⟨none,0,q6,c7⟩,rfl,(SH.is (l:=[aY n ⟨pb,cb,pp,cp⟩,cH n ⟨pb,cb,pp,cp⟩]) h).fr (.c r1 .n)⟩
end Go.Q9
end
