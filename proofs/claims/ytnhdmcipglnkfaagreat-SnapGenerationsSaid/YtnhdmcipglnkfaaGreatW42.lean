/- Parts of a proof: Qn. -/
import Derived.Test.YtnhdmcipglnkfaaGreatW41
set_option linter.unusedVariables false
set_option linter.unusedSimpArgs false
set_option maxRecDepth 100000
set_option maxHeartbeats 4000000
section
namespace Go.Q9
open Go.Proofs.Tryz
open Go.RowKit Go.E Go.Ct
attribute [local irreducible] gB wpS
def NI(f:Int×Int):List Value:=[↑f.1,↑f.2]
theorem RY(f:Int×Int):(NI f).length=2:=rfl
theorem Pw(f:Int×Int):(NI f).all Value.oneCell'=true:=rfl
structure Wkq where
 ps:Option Addr:=none
 cs:Nat:=0
 pw:Option Addr:=none
 cw:Nat:=0
def V6(v:Ct.Wk)(q:Wkq):List Value:=[↑v.started,.slice q.ps v.stack.length q.cs,.slice q.pw v.wait.length q.cw]
def Z5(v:Ct.Wk)(q:Wkq):As:=bV 2 (.slice q.ps v.stack.length q.cs) v.stack.length (v.stack.reverse.flatMap NI)
def aA9(v:Ct.Wk)(q:Wkq):As:=bV 2 (.slice q.pw v.wait.length q.cw) v.wait.length (v.wait.flatMap aR)
theorem _root_.Go.Ct.BW{x y:Ct.X}{t:Ct.bC}{i v:Int}{j:Nat}(hx:Ct.Ok j x)(q:Ct.aX (Ct.oJ t i) x=Ct.out y v):y.e.aC=true\/y.left<x.left:=(Ct.oK hx q).imp id λh=>h.2
variable{B w:World}{L:List As}
theorem TW(xb mb:Nat)(x:Ct.X)(c:Ct.Call)(sd:Bool)(fs:List (Int×Int))(wt:List Ct.bN)(ps:Option Addr)(cs:Nat)(pw:Option Addr)(cw:Nat)(i:Int)(h:SH B w (XA xb mb (Ct.X.of c x)::bV 2 (.slice ps fs.length cs) fs.length (fs.reverse.flatMap NI)::bV 2 (.slice pw wt.length cw) wt.length (wt.flatMap aR)::L))(k:Ct.Ok 60 (Ct.X.of c x))(hfs:fs.length<=1000000000000)(hwt:wt.length<=1000000000000):
  Calls prog 199 #[↑xb,.agg [↑sd,.slice ps fs.length cs,.slice pw wt.length cw].toArray,↑i] w λe w'=>∃y v q,Ct.aX (Ct.wS c.aE ⟨sd,fs,wt⟩ i) (Ct.X.of c x)=Ct.out y v/\e=.returned (.agg (V6 v q).toArray)/\SH B w' (XA xb mb y::Z5 v q::aA9 v q::L)/\Ct.Ok 60 y/\Ct.FF (Ct.X.of c x) y ⟨sd,fs,wt⟩ v:=by
 have hlen:=k.len
 have k0:=k
 refine Ea (args:=[_,_,_]) func199 rfl ntmps199 rfl ?_
 refine sq<|rg<|sf (bx h rfl rfl)<|?_
 rintro _ w ⟨b1,rfl,h⟩
 refine sf (al h k9)<|?_
 rintro _ w ⟨b2,rfl,h⟩
 refine xe<|nx<|sq<|rg<|st (mv rfl)<|st (mv rfl)<|st (nc rfl rfl)<|st (fa vI rfl)<|st (fa Am rfl)<|st (gJ (cs:=cU c.aE) rfl (h.xr 2 a2 λ_=>rfl) xP)<|st (mv rfl)<|cl (ca eF rfl) ((hU xb mb (Ct.X.of c x) c.aE i (h.fr (.c r2 .n)) (k.less (by omega))).mono ?_)
 rintro _ w ⟨y3,v4,q5,rfl,h,k⟩
 obtain⟨z6,rfl⟩:=Ct.mB q5
 have lq5:=Ct.nY q5
 refine⟨_,rfl,?_⟩
 refine st (sg rfl)<|xe<|nx<|sq<|rg<|st (mv rfl)<|st (mv rfl)<|cl (ca eF rfl) ((aN xb mb (Ct.X.of c z6) v4 (h.fr (.c r0 .n)) k.dR).mono ?_)
 rintro _ w ⟨p7,rfl,h⟩
 have f8:=k.lN v4
 have bf8:=k.len
 have bp9:=f8.1.2.1
 refine⟨_,rfl,?_⟩
 refine sf (al h Ty)<|?_
 rintro _ w ⟨b9,rfl,h⟩
 refine sf (so h rfl rfl rfl qH rfl (.r (.r (.r (.r (.r (.r (.r (.r (.r (.r (.r (.r (.r (.r .d)))))))))))))) u0)<|?_
 rintro _ w h
 refine xe<|nx<|sq<|sq<|rg<|st (fa nN rfl)<|st (ld jE rfl (h.c a0 rfl))<|xe<|nx<|bk<|sq<|rg<|st (bi rfl rfl rfl)<|st (sg rfl)<|xe<|nx<|?_
 rcases dA ((((Ct.X.of c z6).node v4).kind:Int)==3)with hd10|hd10
 have hg11:=eq_of_beq hd10
 refine ct rfl hd10<|rg<|sf (bu [] h Bs Cy rfl (by kernel_rfl) rfl (by decide) (by decide))<|?_
 rintro _ w ⟨b12,rfl,h⟩
 refine st (fa xI rfl)<|st (ld Tl rfl (h.c a5 rfl))<|sf (XN h a6 a0 Bs rfl Cy rfl (by decide) rfl rfl (λ_=>u0) (lU Pw _) (xE _) (Xb _) (by unfold maxLen;omega) (by omega))<|?_
 rintro _ w ⟨p13,c14,rfl,h⟩
 refine st (mv rfl)<|st (bd [↑v4,.int .i64 0] d6 rfl (by kernel_rfl))<|sf (bu (NI (v4,0)) h Bs Cy rfl (by kernel_rfl) rfl (by decide) (by decide))<|?_
 rintro _ w ⟨b15,rfl,h⟩
 refine sf (ap h Bs rfl Cy rfl (by decide) rfl rfl (λ_=>u1) (h.ro a0) (λu hu=>List.all_eq_true.1 (Pw _) u hu) rfl (fW _ _) (by unfold maxLen;omega) (by omega))<|?_
 rintro _ w ⟨p16,c17,rfl,h⟩
 refine st (fa xI rfl)<|sf (so h rfl rfl rfl F8 rfl (.s (.r .d)) u6)<|?_
 rintro _ w h
 refine xe<|bn<|nx<|sq<|rg<|st (gJ rfl (dK (h.b a6)) lG)<|sf (so h rfl rfl rfl Bj rfl (.r (.r (.r .d))) u5)<|?_
 rintro _ w h
 refine xe<|nx<|rt<|?_
 have h:=SH.fz (h.fr (.c r1 .n))
 have er:fs.reverse++[((v4:Int),(0:Int))]=((v4,0)::fs).reverse:=(List.reverse_cons ..).symm
 rw[er]at h
 refine rr (bP results199 rfl (h.b a5) lG)<|?_
 have em:Ct.Wk.meet ⟨sd,fs,wt⟩ v4 ((Ct.X.of c z6).node v4)=⟨sd,(v4,0)::fs,wt⟩:=by unfold Ct.Wk.meet;rw[show (((Ct.X.of c z6).node v4).kind==3)=true from hd10];rfl
 have he:Ct.FF (Ct.X.of c x) _ ⟨sd,fs,wt⟩ (Ct.Wk.meet ⟨sd,fs,wt⟩ v4 ((Ct.X.of c z6).node v4)):=Ct.If (Ct.BW k0 q5) hwt (by have:=bp9;omega)
 have hr:Ct.aX (Ct.wS c.aE ⟨sd,fs,wt⟩ i) (Ct.X.of c x)=Ct.out _ (Ct.Wk.meet ⟨sd,fs,wt⟩ v4 ((Ct.X.of c z6).node v4)):=Ct.rB q5 (Ct.rN Ct.rR)
 rw[em]at hr he
 exact⟨_,⟨sd,(v4,0)::fs,wt⟩,⟨p16,c17,pw,cw⟩,hr,rfl,((h.fr (.c r1 (.c r1 (.c r1 (.c r2 (.c r2 (.c r2 .n))))))).drop.drop.drop.drop.drop.drop.fr (.c r1 (.c r0 (.c r0 .n)))),k,he⟩
 have hg18:=dP hd10
 refine cf rfl hd10<|sq<|rg<|st (bi rfl rfl rfl)<|st (sg rfl)<|xe<|nx<|?_
 rcases dA ((((Ct.X.of c z6).node v4).kind:Int)==5)with hd19|hd19
 have hg20:=eq_of_beq hd19
 refine ct rfl hd19<|rg<|st (fa Ep rfl)<|st (ld uK rfl (h.c a0 rfl))<|st (fa VV rfl)<|st (ld vV rfl (h.c a0 rfl))<|st (bd [.string ((Ct.X.of c z6).node v4).key,.int .u64 ((((Ct.X.of c z6).node v4).value:Nat):Int)] CI rfl (by kernel_rfl))<|sf (bu (aR (⟨((Ct.X.of c z6).node v4).key,((Ct.X.of c z6).node v4).value⟩:Ct.bN)) h Bi LN rfl (by kernel_rfl) rfl (by decide) (by decide))<|?_
 rintro _ w ⟨b21,rfl,h⟩
 refine st (fa Ej rfl)<|sf (so h rfl rfl rfl VU rfl (.s (.s (.r .d))) u5)<|?_
 rintro _ w h
 refine xe<|bn<|nx<|sq<|rg<|st (gJ rfl (dK (h.b a5)) lG)<|sf (so h rfl rfl rfl Bj rfl (.r (.r (.r .d))) u4)<|?_
 rintro _ w h
 refine xe<|nx<|rt<|?_
 have h:=SH.fz (h.fr (.c r0 .n))
 refine rr (bP results199 rfl (h.b a4) lG)<|?_
 have em:Ct.Wk.meet ⟨sd,fs,wt⟩ v4 ((Ct.X.of c z6).node v4)=⟨sd,fs,[⟨((Ct.X.of c z6).node v4).key,((Ct.X.of c z6).node v4).value⟩]⟩:=by unfold Ct.Wk.meet;rw[show (((Ct.X.of c z6).node v4).kind==3)=false from hd10,show (((Ct.X.of c z6).node v4).kind==5)=true from hd19];rfl
 have he:Ct.FF (Ct.X.of c x) _ ⟨sd,fs,wt⟩ (Ct.Wk.meet ⟨sd,fs,wt⟩ v4 ((Ct.X.of c z6).node v4)):=Ct.If (Ct.BW k0 q5) hwt (by have:=bp9;omega)
 have hr:Ct.aX (Ct.wS c.aE ⟨sd,fs,wt⟩ i) (Ct.X.of c x)=Ct.out _ (Ct.Wk.meet ⟨sd,fs,wt⟩ v4 ((Ct.X.of c z6).node v4)):=Ct.rB q5 (Ct.rN Ct.rR)
 rw[em]at hr he
 exact⟨_,⟨sd,fs,[⟨((Ct.X.of c z6).node v4).key,((Ct.X.of c z6).node v4).value⟩]⟩,⟨ps,cs,(some ⟨b21,0,none⟩),1⟩,hr,rfl,((h.fr (.c r1 (.c r1 (.c r2 (.c r2 (.c r3 .n)))))).drop.drop.drop.drop.drop.fr (.c r1 (.c r1 (.c r0 .n)))),k,he⟩
 have hg22:=dP hd19
 refine cf rfl hd19<|sq<|rg<|st (bi rfl rfl rfl)<|st (sg rfl)<|xe<|nx<|?_
 rcases dA ((((Ct.X.of c z6).node v4).kind:Int)==6)with hd23|hd23
 have hg24:=eq_of_beq hd23
 refine ct rfl hd23<|?_
 have h:=SH.Gs (h.fr (.c r1 .n)) .z
 have h:SH B w (bV 1 (.slice p7.pb ((Ct.X.of c z6).node v4).aA.length p7.cb) ((Ct.X.of c z6).node v4).aA.length (((Ct.X.of c z6).node v4).aA.map (Value.int .i64))::bV 2 (.slice p7.pp ((Ct.X.of c z6).node v4).aF.length p7.cp) ((Ct.X.of c z6).node v4).aF.length (((Ct.X.of c z6).node v4).aF.flatMap aR)::aM ((Ct.X.of c z6).node v4) p7::bl b9 (aL ((Ct.X.of c z6).node v4) p7) 53::XA xb mb (Ct.X.of c z6)::bl b2 ([↑false,.slice none 0 0,.slice none 0 0]) 58::bl b1 ([↑sd,.slice ps fs.length cs,.slice pw wt.length cw]) 58::bV 2 (.slice ps fs.length cs) fs.length (fs.reverse.flatMap NI)::bV 2 (.slice pw wt.length cw) wt.length (wt.flatMap aR)::L):=SH.se (l:=[aY ((Ct.X.of c z6).node v4) p7,cH ((Ct.X.of c z6).node v4) p7]) h
 refine rg<|st (fa qD rfl)<|st (ld qV rfl (h.c a3 rfl))<|st (fa Ej rfl)<|sf (so h rfl rfl rfl VU rfl (.s (.s (.r .d))) u6)<|?_
 rintro _ w h
 refine xe<|bn<|nx<|sq<|rg<|st (gJ rfl (dK (h.b a6)) lG)<|sf (so h rfl rfl rfl Bj rfl (.r (.r (.r .d))) u5)<|?_
 rintro _ w h
 refine xe<|nx<|rt<|?_
 refine rr (bP results199 rfl (h.b a5) lG)<|?_
 have em:Ct.Wk.meet ⟨sd,fs,wt⟩ v4 ((Ct.X.of c z6).node v4)=⟨sd,fs,((Ct.X.of c z6).node v4).aF⟩:=by unfold Ct.Wk.meet;rw[show (((Ct.X.of c z6).node v4).kind==3)=false from hd10,show (((Ct.X.of c z6).node v4).kind==5)=false from hd19,show (((Ct.X.of c z6).node v4).kind==6)=true from hd23];rfl
 have he:Ct.FF (Ct.X.of c x) _ ⟨sd,fs,wt⟩ (Ct.Wk.meet ⟨sd,fs,wt⟩ v4 ((Ct.X.of c z6).node v4)):=Ct.If (Ct.BW k0 q5) hwt (by have:=bp9;omega)
 have hr:Ct.aX (Ct.wS c.aE ⟨sd,fs,wt⟩ i) (Ct.X.of c x)=Ct.out _ (Ct.Wk.meet ⟨sd,fs,wt⟩ v4 ((Ct.X.of c z6).node v4)):=Ct.rB q5 (Ct.rN Ct.rR)
 rw[em]at hr he
 exact⟨_,⟨sd,fs,((Ct.X.of c z6).node v4).aF⟩,⟨ps,cs,p7.pp,p7.cp⟩,hr,rfl,((h.fr (.c r0 (.c r1 (.c r1 (.c r2 (.c r2 (.c r3 .n))))))).drop.drop.drop.drop.drop.drop.fr (.c r1 (.c r1 (.c r0 .n)))),k,he⟩
 have hg25:=dP hd23
 refine cf rfl hd23<|sk<|bn<|nx<|sq<|rg<|st (gJ rfl (dK (h.b a4)) lG)<|sf (so h rfl rfl rfl Bj rfl (.r (.r (.r .d))) u3)<|?_
 rintro _ w h
 refine xe<|nx<|rt<|?_
 refine rr (bP results199 rfl (h.b a3) lG)<|?_
 have em:Ct.Wk.meet ⟨sd,fs,wt⟩ v4 ((Ct.X.of c z6).node v4)=⟨sd,fs,wt⟩:=by unfold Ct.Wk.meet;rw[show (((Ct.X.of c z6).node v4).kind==3)=false from hd10,show (((Ct.X.of c z6).node v4).kind==5)=false from hd19,show (((Ct.X.of c z6).node v4).kind==6)=false from hd23];rfl
 have he:Ct.FF (Ct.X.of c x) _ ⟨sd,fs,wt⟩ (Ct.Wk.meet ⟨sd,fs,wt⟩ v4 ((Ct.X.of c z6).node v4)):=Ct.If (Ct.BW k0 q5) hwt (by have:=bp9;omega)
 have hr:Ct.aX (Ct.wS c.aE ⟨sd,fs,wt⟩ i) (Ct.X.of c x)=Ct.out _ (Ct.Wk.meet ⟨sd,fs,wt⟩ v4 ((Ct.X.of c z6).node v4)):=Ct.rB q5 (Ct.rN Ct.rR)
 rw[em]at hr he
 exact⟨_,⟨sd,fs,wt⟩,⟨ps,cs,pw,cw⟩,hr,rfl,(h.fr (.c r0 (.c r0 (.c r1 (.c r1 .n))))).drop.drop.drop.drop,k,he⟩
theorem Y8(xb mb:Nat)(x:Ct.X)(c:Ct.Call)(F:Nat)(sd:Bool)(fs0:List (Int×Int))(wt0:List Ct.bN)(ps0:Option Addr)(cs0:Nat)(pw0:Option Addr)(cw0:Nat)(h:SH B w (XA xb mb (Ct.X.of c x)::bV 2 (.slice ps0 fs0.length cs0) fs0.length (fs0.reverse.flatMap NI)::bV 2 (.slice pw0 wt0.length cw0) wt0.length (wt0.flatMap aR)::L))(k:Ct.Ok 60 (Ct.X.of c x))(hx:(Ct.X.of c x).left<F)(hF:F<=100000000000)(hfs:fs0.length+(Ct.X.of c x).left<=500000000000)(hfr:∀f∈fs0,0<=f.2/\f.2<=64)(hwt:wt0.length<=1000000000000):
  Calls prog 156 #[↑xb,.agg [↑sd,.slice ps0 fs0.length cs0,.slice pw0 wt0.length cw0].toArray] w λe w'=>∃y v q,Ct.aX (Ct.Il c.aE F ⟨sd,fs0,wt0⟩) (Ct.X.of c x)=Ct.out y v/\e=.returned (.tuple #[.agg (V6 v.w q).toArray,.agg (aR v.p).toArray,.bool v.ok])/\SH B w' (XA xb mb y::Z5 v.w q::aA9 v.w q::L)/\Ct.Ok 60 y/\Ct.IJ (Ct.X.of c x) y ⟨sd,fs0,wt0⟩ v:=by
 have hfs9:fs0.length<=500000000000:=by omega
 have hlen:=k.len
 have k0:=k
 refine Ea (args:=[_,_]) func156 rfl ntmps156 rfl ?_
 refine sq<|rg<|sf (bx h rfl rfl)<|?_
 rintro _ w ⟨b1,rfl,h⟩
 refine sf (al h k9)<|?_
 rintro _ w ⟨b2,rfl,h⟩
 refine sf (al h QB)<|?_
 rintro _ w ⟨b3,rfl,h⟩
 refine st (sg rfl)<|xe<|nx<|?_
 refine sm (λe w=>∃y:Ct.X,∃fs:List (Int×Int),∃wt:List Ct.bN,∃ps:Option Addr,∃cs:Nat,∃pw:Option Addr,∃cw:Nat,Sub 122 e (.c 0 ↑xb (.c 3 ↑b1 (.c 4 ↑b2 (.c 5 ↑b3 .n))))/\SH B w (XA xb mb (Ct.X.of c y)::bl b1 ([↑true,.slice ps fs.length cs,.slice pw wt.length cw]) 58::bV 2 (.slice ps fs.length cs) fs.length (fs.reverse.flatMap NI)::bV 2 (.slice pw wt.length cw) wt.length (wt.flatMap aR)::bl b2 ([↑false,.slice none 0 0,.slice none 0 0]) 58::bl b3 ([.string .empty,.int .u64 0]) 120::L)/\(Ct.aX (Ct.Il c.aE F ⟨sd,fs0,wt0⟩) (Ct.X.of c x)=Ct.aX (Ct.iS c.aE F ⟨true,fs,wt⟩) (Ct.X.of c y))/\(Ct.Ok 60 (Ct.X.of c y))/\(Ct.oB (Ct.X.of c x) (Ct.X.of c y) ⟨sd,fs0,wt0⟩ fs wt)/\((Ct.X.of c y).e.aC=true\/(Ct.X.of c y).left<F)) ?_ ?_
 refine sq<|rg<|st (fa VR rfl)<|st (ld xN rfl (h.c a2 rfl))<|st (nt rfl)<|xe<|nx<|?_
 rcases dA (!sd)with hd4|hd4
 have hd5:sd=false:=(lC _).mp hd4
 refine ct rfl hd4<|sq<|rg<|st (fa VR rfl)<|sf (so h rfl rfl rfl AU rfl (.r .d) u2)<|?_
 rintro _ w h
 refine xe<|nx<|drZ (F:=[bl b1 ([↑true,.slice ps0 fs0.length cs0,.slice pw0 wt0.length cw0]) 58,ce xb 2 (.int .i64 c.aE.root)]) [1,3,5,7,9,11,13,15,17,18,20] 11 (by kernel_rfl) h (λw h=>(hC (h.at_ a2) (hC (h.eJ a3 λ_=>rfl) hN))) λw h=>tk (λW H=>mv rfl)<|tk (λW H=>gJ rfl (dK (H.b a0)) lG)<|tk (λW H=>mv rfl)<|tk (λW H=>mv rfl)<|tk (λW H=>nc rfl rfl)<|tk (λW H=>fa vI rfl)<|tk (λW H=>fa Am rfl)<|tk (λW H=>fa P0 rfl)<|tk (λW H=>ld (v:=.int .i64 c.aE.root) Bv rfl (H.ce a1))<|cs (ca eF rfl) ((mU xb mb (Ct.X.of c x) c.aE.root (h.fr (.c r3 .n)) (k.less (by omega))).mono ?_)
 rintro _ w ⟨y6,v7,q8,rfl,h,k⟩
 obtain⟨z9,rfl⟩:=Ct.J2 q8
 have lq8:=Ct.M8 q8
 refine⟨_,rfl,(hC (h.at_ a3) (hC (h.eJ a0 λ_=>rfl) hN)),?_⟩
 refine cs (ca eF rfl) ((TW xb mb z9 c true fs0 wt0 ps0 cs0 pw0 cw0 v7 (h.fr (.c r0 (.c r3 (.c r3 .n)))) (k.less (by omega)) (by have:=hfs9;(try simp only[QR]);omega) (by omega)).mono ?_)
 rintro _ w ⟨y15,ve11,qe12,q13,rfl,h,k,he14⟩
 obtain⟨z10,rfl⟩:=Ct.mB q13
 have lq13:=Ct.nY q13
 refine⟨_,rfl,(hC (h.at_ a5) (hC (h.eJ a0 λ_=>rfl) hN)),?_⟩
 refine xzZ<|sf (so h rfl rfl rfl Bj rfl (.r (.r (.r .d))) u5)<|?_
 rintro _ w h
 refine xe<|nx<|?_
 rw[show ve11.started=true from he14.2.1]at h
 exact⟨z10,ve11.stack,ve11.wait,qe12.ps,qe12.cs,qe12.pw,qe12.cw,⟨rfl,rfl,rfl,rfl,trivial⟩,(h.fr (.c r0 (.c r4 (.c r0 (.c r0 (.c r1 (.c r0 .n))))))),(by unfold Ct.Il;rw[hd5];exact Ct.rL q8 (Ct.rB q13 (Ct.Yc he14.2.1))),k,(.first (y:=_) (w:=⟨true,fs0,wt0⟩) hfr (Ct.K1 q8) he14),(he14.1.imp id λh9=>by have:=Ct.K1 q8;omega)⟩
 have hd16:sd=true:=(bI _).mp hd4
 refine cf rfl hd4<|sk<|nx<|?_
 rw[hd16]at h
 exact⟨x,fs0,wt0,ps0,cs0,pw0,cw0,⟨rfl,rfl,rfl,rfl,trivial⟩,(h.fr (.c r3 (.c r2 (.c r2 (.c r2 (.c r1 (.c r0 .n))))))),(by unfold Ct.Il;rw[hd16];rfl),k,(.start hfr hwt),(.inr hx)⟩
 rintro e w ⟨y,fs,wt,ps,cs,pw,cw,hE,h,hq,k,hP,hn⟩
 refine C.sub hE ?_
 clear hE e
 refine sq<|bk<|?_
 refine lp (α:=Ct.X×Nat×List (Int×Int)×List Ct.bN×Option Addr×Nat×Option Addr×Nat) (λρ=>(.c 0 ↑xb (.c 3 ↑b1 (.c 4 ↑b2 (.c 5 ↑b3 .n))))) (λρ w=>SH B w (XA xb mb (Ct.X.of c ρ.1)::bl b1 ([↑true,.slice ρ.2.2.2.2.1 ρ.2.2.1.length ρ.2.2.2.2.2.1,.slice ρ.2.2.2.2.2.2.1 ρ.2.2.2.1.length ρ.2.2.2.2.2.2.2]) 58::bV 2 (.slice ρ.2.2.2.2.1 ρ.2.2.1.length ρ.2.2.2.2.2.1) ρ.2.2.1.length (ρ.2.2.1.reverse.flatMap NI)::bV 2 (.slice ρ.2.2.2.2.2.2.1 ρ.2.2.2.1.length ρ.2.2.2.2.2.2.2) ρ.2.2.2.1.length (ρ.2.2.2.1.flatMap aR)::bl b2 ([↑false,.slice none 0 0,.slice none 0 0]) 58::bl b3 ([.string .empty,.int .u64 0]) 120::L)/\(Ct.aX (Ct.Il c.aE F ⟨sd,fs0,wt0⟩) (Ct.X.of c x)=Ct.aX (Ct.iS c.aE ρ.2.1 ⟨true,ρ.2.2.1,ρ.2.2.2.1⟩) (Ct.X.of c ρ.1))/\(Ct.Ok 60 (Ct.X.of c ρ.1))/\(Ct.oB (Ct.X.of c x) (Ct.X.of c ρ.1) ⟨sd,fs0,wt0⟩ ρ.2.2.1 ρ.2.2.2.1)/\((Ct.X.of c ρ.1).e.aC=true\/(Ct.X.of c ρ.1).left<ρ.2.1)) (λρ=>ρ.2.1*2+ρ.2.2.1.length) (y,F,fs,wt,ps,cs,pw,cw) ⟨rfl,rfl,rfl,rfl,trivial⟩ ⟨h,hq,k,hP,hn⟩ ?_
 rintro⟨y1,n,fs1,wt1,p1,c1,p2,c2⟩ w ⟨h,hq,k,hP,hn⟩
 dsimp only at *
 refine sq<|sq<|rg<|st (mv rfl)<|st (nc rfl rfl)<|st (fa nB rfl)<|st (ld (v:=.bool (Ct.X.of c y1).e.aC) xN rfl (h.xc a0 λ_=>rfl))<|st (nt rfl)<|xe<|nx<|?_
 rcases dA (!(Ct.X.of c y1).e.aC)with hd17|hd17
 have hd18:(Ct.X.of c y1).e.aC=false:=(lC _).mp hd17
 refine ct rfl hd17<|sk<|nx<|bk<|sq<|sq<|?_
 obtain⟨n,rfl⟩:∃k,n=k+1:=⟨n-1,by have:=hn.resolve_left (by rw[hd18];decide);omega⟩
 replace hn:=hn.resolve_left (by rw[hd18];decide)
 have hl9:fs1.length<=600000000000:=by have h9:=hP.resolve_left (by rw[hd18];decide);have h8:=h9.1;dsimp only at h8;omega
 refine rg<|st (fa Ej rfl)<|st (ld qV rfl (h.c a1 rfl))<|st (ln Bi rfl rfl)<|st (bi rfl rfl rfl)<|xe<|nx<|?_
 rcases dA (decide (((wt1.length:Int):Int)>0))with hd19|hd19
 obtain⟨p9,wt2,hw⟩:∃p l,wt1=p::l:=by cases wt1 with|nil=>exact absurd hd19 (by simp)|cons p l=>exact⟨p,l,rfl⟩
 have hwl:wt1.length=wt2.length+1:=by rw[hw,QR]
 have hg20:=eC hd19
 refine ct rfl hd19<|sq<|rg<|st (fa Ej rfl)<|st (ld qV rfl (h.c a1 rfl))<|?_
 obtain⟨b21,o22,rfl⟩:=h.fq a3 (by omega)
 refine st (ix (j:=0) Bi xO rfl rfl (by omega))<|st (gJ rfl ((h.rr a3).x bH (by decide) (j:=0) (by omega) ⟨.empty,0⟩) Ak)<|sf (al h QB)<|?_
 rintro _ w ⟨b23,rfl,h⟩
 refine sf (so h rfl rfl rfl xO rfl (.r (.r .d)) u0)<|?_
 rintro _ w h
 refine xe<|nx<|sq<|rg<|st (fa Ej rfl)<|st (ld qV rfl (h.c a2 rfl))<|st (YD (k:=1) Bi xO rfl rfl (by omega) (h.MS a4))<|?_
 have h:=h.tl (k:=1) a4 (by omega)
 rw[rZ bH]at h
 refine st (fa Ej rfl)<|sf (so h rfl rfl rfl VU rfl (.s (.s (.r .d))) u3)<|?_
 rintro _ w h
 refine xe<|nx<|sq<|dZ [1,3,4,6,8] (by kernel_rfl) h (.c r3 (.c r1 .n)) λw h=>tk (λW H=>gJ rfl (dK (H.b a0)) lG)<|tk (λW H=>gJ rfl (dK (H.b a1)) Ak)<|ff (so h rfl rfl rfl Bj rfl (.r (.r (.r .d))) u6)<|?_
 rintro _ w h
 refine⟨h.hs (.c r3 (.c r1 .n)),?_⟩
 refine ff (so h rfl rfl rfl xO rfl (.r (.r .d)) u7)<|?_
 rintro _ w h
 refine⟨h.hs (.c r3 (.c r1 .n)),?_⟩
 refine ef (sg rfl) (h.hs (.c r3 (.c r1 .n)))<|xz<|nx<|rt<|tr<|bt<|tr<|bt<|tr<|?_
 refine rr (FG results156 rfl (h.b a6) lG rfl (h.b a7) Ak rfl)<|?_
 rw[hw]at h hq hP
 rw[hw]
 exact⟨_,⟨⟨true,fs1,wt2⟩,p9,true⟩,⟨p1,c1,(tl (some ⟨b21,o22,none⟩) c2 1 2),(c2-1)⟩,hq.trans Ct.JO,rfl,((h.fr (.c r1 (.c r2 (.c r3 (.c r3 (.c r3 .n)))))).drop.drop.drop.drop.drop.fr (.c r1 (.c r1 (.c r0 .n)))),k,hP.wait⟩
 have hw:wt1=[]:=by cases wt1 with|nil=>rfl|cons p l=>exact absurd hd19 (by simp)
 have hg24:=cW hd19
 refine cf rfl hd19<|sk<|nx<|sq<|rg<|st (fa xI rfl)<|st (ld Tl rfl (h.c a1 rfl))<|st (ln Bs rfl rfl)<|st (bw rfl rfl (zW (c:=(fs1.length:Int)-1) (by omega) (by omega) (by omega)))<|st (sg rfl)<|xe<|nx<|sq<|sq<|rg<|st (mv rfl)<|st (bi rfl rfl rfl)<|xe<|nx<|?_
 rcases dA (decide (((fs1.length:Int)-1:Int)<0))with hd25|hd25
 have hf:fs1=[]:=by cases fs1 with|nil=>rfl|cons p l=>exact absurd (eC hd25) (by simp only[QR];omega)
 have hg26:=eC hd25
 refine ct rfl hd25<|sq<|rg<|st (gJ rfl (dK (h.b a1)) lG)<|st (bd [.string .empty,.int .u64 0] CI rfl (by kernel_rfl))<|sf (so h rfl rfl rfl Bj rfl (.r (.r (.r .d))) u4)<|?_
 rintro _ w h
 refine sf (so h rfl rfl rfl xO rfl (.r (.r .d)) u5)<|?_
 rintro _ w h
 refine st (sg rfl)<|xe<|nx<|rt<|tr<|bt<|tr<|bt<|tr<|?_
 refine rr (FG results156 rfl (h.b a4) lG rfl (h.b a5) Ak rfl)<|?_
 rw[hw,hf]at h hq hP
 exact⟨_,⟨⟨true,[],[]⟩,⟨.empty,0⟩,false⟩,⟨p1,c1,p2,c2⟩,hq.trans Ct.OS,by rw[hw,hf];rfl,(h.fr (.c r1 (.c r3 (.c r3 .n)))).drop.drop.drop,k,hP.none⟩
 obtain⟨f,fl,hf⟩:∃p l,fs1=p::l:=by cases fs1 with|nil=>exact absurd (cW hd25) (by simp)|cons p l=>exact⟨p,l,rfl⟩
 have hfl:fs1.length=fl.length+1:=by rw[hf,QR]
 have hP9:=hP
 rw[hf]at hP9
 have hfr9:=hP9.head hd18
 have hfs9:fl.length+1<=600000000000:=by have h9:=hP9.resolve_left (by rw[hd18];decide);have:=h9.1;simp only[QR]at this;omega
 have hg27:=cW hd25
 refine cf rfl hd25<|sk<|nx<|sq<|?_
 rw[show (fs1.length:Int)-1=(fl.length:Int) by omega]
 refine rg<|st (fa xI rfl)<|st (ld Tl rfl (h.c a1 rfl))<|st (mv rfl)<|?_
 obtain⟨b28,o29,rfl⟩:=h.fq a2 (by omega)
 refine st (ix (j:=fl.length) Bs NX rfl rfl (by omega))<|st (gJ rfl ((h.rr a2).x RY (by decide) (by omega) ((0:Int),(0:Int))) R8)<|sf (al h W9)<|?_
 rintro _ w ⟨b30,rfl,h⟩
 refine sf (so h rfl rfl rfl NX rfl (.r (.r .d)) u0)<|?_
 rintro _ w h
 refine xe<|nx<|sq<|?_
 have e9:=Ct.S6 (d:=((0:Int),(0:Int))) hf
 rw[e9]at h
 refine rg<|st (mv rfl)<|st (fa JZ rfl)<|st (ld iO rfl (h.c a0 rfl))<|cl (ca eF rfl) ((aN xb mb (Ct.X.of c y1) f.1 (h.fr (.c r1 .n)) k.dR).mono ?_)
 rintro _ w ⟨p31,rfl,h⟩
 have f32:=k.lN f.1
 have bf32:=k.len
 have bp9:=f32.1.2.1
 refine⟨_,rfl,?_⟩
 refine sf (al h Ty)<|?_
 rintro _ w ⟨b33,rfl,h⟩
 refine sf (so h rfl rfl rfl qH rfl (.r (.r (.r (.r (.r (.r (.r (.r (.r (.r (.r (.r (.r (.r .d)))))))))))))) u0)<|?_
 rintro _ w h
 refine xe<|nx<|sq<|?_
 have hb64:=f32.1.2.2.1
 refine rg<|st (fa l8 rfl)<|st (ld jE rfl (h.c a3 rfl))<|st (sg rfl)<|xe<|nx<|?_
 refine sm (λe w=>∃i:Int,Sub 122 e (.c 0 ↑xb (.c 3 ↑b1 (.c 4 ↑b2 (.c 5 ↑b3 (.c 8 ↑(fl.length:Int) (.c 9 ↑b30 (.c 10 ↑b33 (.c 11 ↑i .n))))))))/\SH B w (bl b33 (aL ((Ct.X.of c y1).node f.1) p31) 53::aM ((Ct.X.of c y1).node f.1) p31::XA xb mb (Ct.X.of c y1)::bl b30 (NI f) 211::bl b1 ([↑true,.slice (some ⟨b28,o29,none⟩) fs1.length c1,.slice p2 wt1.length c2]) 58::bV 2 (.slice (some ⟨b28,o29,none⟩) fs1.length c1) fs1.length (fs1.reverse.flatMap NI)::bV 2 (.slice p2 wt1.length c2) wt1.length (wt1.flatMap aR)::bl b2 ([↑false,.slice none 0 0,.slice none 0 0]) 58::bl b3 ([.string .empty,.int .u64 0]) 120::L)/\(Ct.eQ ((Ct.X.of c y1).node f.1).aD f.2=i/\f.2<=i/\i<=64)) ?_ ?_
 refine bk<|?_
 refine lp (α:=Int) (λρ=>(.c 0 ↑xb (.c 3 ↑b1 (.c 4 ↑b2 (.c 5 ↑b3 (.c 8 ↑(fl.length:Int) (.c 9 ↑b30 (.c 10 ↑b33 (.c 11 (.int .i64 ρ) .n))))))))) (λρ w=>SH B w (bl b33 (aL ((Ct.X.of c y1).node f.1) p31) 53::aM ((Ct.X.of c y1).node f.1) p31::XA xb mb (Ct.X.of c y1)::bl b30 (NI f) 211::bl b1 ([↑true,.slice (some ⟨b28,o29,none⟩) fs1.length c1,.slice p2 wt1.length c2]) 58::bV 2 (.slice (some ⟨b28,o29,none⟩) fs1.length c1) fs1.length (fs1.reverse.flatMap NI)::bV 2 (.slice p2 wt1.length c2) wt1.length (wt1.flatMap aR)::bl b2 ([↑false,.slice none 0 0,.slice none 0 0]) 58::bl b3 ([.string .empty,.int .u64 0]) 120::L)/\(f.2<=ρ/\ρ<=64/\Ct.eQ ((Ct.X.of c y1).node f.1).aD f.2=Ct.iI ((Ct.X.of c y1).node f.1).aD (64-ρ).toNat ρ)) (λρ=>(64-ρ).toNat) f.2 ⟨rfl,rfl,rfl,rfl,rfl,rfl,rfl,rfl,trivial⟩ ⟨h,⟨JA _,hfr9.2,rfl⟩⟩ ?_
 rintro i w ⟨h,hi⟩
 refine sq<|sq<|rg<|st (mv rfl)<|st (bi rfl rfl rfl)<|st (mv rfl)<|?_
 rcases dA (decide ((i:Int)<64))with hd34|hd34
 have hg35:=eC hd34
 refine gT rfl rfl hd34<|st (fa tM rfl)<|gT rfl rfl hd34<|st (ld vV rfl (h.c a0 rfl))<|gT rfl rfl hd34<|st (mv rfl)<|gT rfl rfl hd34<|cl (ca eF rfl) ((Ix ((Ct.X.of c y1).node f.1).aD i _ hb64).mono ?_)
 rintro _ _ ⟨rfl,rfl⟩
 refine⟨_,rfl,?_⟩
 refine gT rfl rfl hd34<|st (nt rfl)<|st (pT rfl hd34 rfl)<|xe<|nx<|?_
 rcases dA (!(Bm.has ((Ct.X.of c y1).node f.1).aD i))with hd36|hd36
 have hd37:(Bm.has ((Ct.X.of c y1).node f.1).aD i)=false:=(lC _).mp hd36
 refine ct rfl hd36<|sk<|nx<|bk<|rg<|st (mv rfl)<|st (bw rfl rfl (gN (c:=i+1) (by omega) (by omega) (by omega)))<|st (sg rfl)<|xe<|bn<|nx<|?_
 exact⟨(i+1),⟨rfl,rfl,rfl,rfl,rfl,rfl,rfl,rfl,trivial⟩,⟨h,⟨by omega,by omega,hi.2.2.trans (Ct.T9 (by omega) hd37)⟩⟩,by(try dsimp only);omega⟩
 have hd38:(Bm.has ((Ct.X.of c y1).node f.1).aD i)=true:=(bI _).mp hd36
 refine cf rfl hd36<|xt<|tx<|tx<|be<|nx<|?_
 exact⟨i,⟨rfl,rfl,rfl,rfl,rfl,rfl,rfl,rfl,trivial⟩,h,⟨hi.2.2.trans (Ct.SQ (λh9=>hd38)),hi.1,hi.2.1⟩⟩
 have hg39:=cW hd34
 refine gF rfl rfl hd34<|gF rfl rfl hd34<|gF rfl rfl hd34<|gF rfl rfl hd34<|gF rfl rfl hd34<|st (pF rfl hd34 rfl)<|xe<|nx<|cF rfl<|xt<|tx<|tx<|be<|nx<|?_
 exact⟨i,⟨rfl,rfl,rfl,rfl,rfl,rfl,rfl,rfl,trivial⟩,h,⟨hi.2.2.trans (Ct.SQ (λh9=>absurd h9 (by omega))),hi.1,hi.2.1⟩⟩
 rintro e w ⟨i,hE,h,hx2⟩
 refine C.sub hE ?_
 clear hE e
 refine sq<|?_
 have hcap9:=h.MS a5
 refine rg<|sf (bu [] h Bs Cy rfl (by kernel_rfl) rfl (by decide) (by decide))<|?_
 rintro _ w ⟨b40,rfl,h⟩
 refine st (fa xI rfl)<|st (ld Tl rfl (h.c a5 rfl))<|st (mv rfl)<|st (B4 (k:=fl.length) Bs NX rfl rfl (by omega))<|?_
 have h:=h.cut (k:=fl.length) a6 (by omega)
 rw[Kk RY]at h
 refine sf (ap h Bs rfl Cy rfl (by decide) rfl rfl (λ_=>u1) (h.rr a0) (lU Pw _) (xE _) (Xb _) (by unfold maxLen;omega) (by omega))<|?_
 rintro _ w ⟨p41,c42,rfl,h⟩
 refine st (fa xI rfl)<|sf (so h rfl rfl rfl F8 rfl (.s (.r .d)) u6)<|?_
 rintro _ w h
 refine xe<|nx<|sq<|sq<|?_
 rw[Ct.N3 hf]at h
 refine rg<|st (mv rfl)<|st (bi rfl rfl rfl)<|xe<|nx<|?_
 rcases dA ((i:Int)==64)with hd43|hd43
 have hg44:=eq_of_beq hd43
 refine ct rfl hd43<|xt<|tx<|be<|nx<|?_
 have h:=SH.fz (h.fr (.c r1 .n))
 exact⟨(y1,(n+1),fl,wt1,p41,c42,p2,c2),⟨rfl,rfl,rfl,rfl,trivial⟩,⟨((h.fr (.c r1 (.c r1 (.c r1 (.c r2 (.c r3 .n)))))).drop.drop.drop.drop.drop.fr (.c r1 (.c r1 (.c r0 (.c r0 (.c r0 (.c r0 .n))))))),(hq.trans (by rw[hf,hw];exact Ct.LS (hx2.1.trans (eq_of_beq hd43)))),k,hP9.pop,(.inr hn)⟩,by(try dsimp only);omega⟩
 have hg45:=dP hd43
 refine cf rfl hd43<|sk<|nx<|sq<|rg<|st (fa xI rfl)<|st (ld Tl rfl (h.c a6 rfl))<|st (fa JZ rfl)<|st (ld iO rfl (h.c a5 rfl))<|st (mv rfl)<|st (bw rfl rfl (gN (c:=i+1) (by omega) (by omega) (by omega)))<|st (bd [↑f.1,.int .i64 (i+1)] d6 rfl (by kernel_rfl))<|sf (bu (NI (f.1,i+1)) h Bs Cy rfl (by kernel_rfl) rfl (by decide) (by decide))<|?_
 rintro _ w ⟨b46,rfl,h⟩
 refine sf (ap h Bs rfl Cy rfl (by decide) rfl rfl (λ_=>u2) (h.ro a0) (λu hu=>List.all_eq_true.1 (Pw _) u hu) rfl (fW _ _) (by unfold maxLen;omega) (by omega))<|?_
 rintro _ w ⟨p47,c48,rfl,h⟩
 refine st (fa xI rfl)<|sf (so h rfl rfl rfl F8 rfl (.s (.r .d)) u7)<|?_
 rintro _ w h
 refine xe<|nx<|sq<|?_
 rw[show fl.reverse++[(f.1,i+1)]=((f.1,i+1)::fl).reverse from(List.reverse_cons ..).symm]at h
 have h:=SH.fz (h.fr (.c r2 .n))
 refine rg<|st (gJ rfl (dK (h.b a3)) iR)<|st (mv rfl)<|cl (ca eF rfl) ((fG ((Ct.X.of c y1).node f.1) p31.pb p31.cb p31.pp p31.cp i (h.fr (.c r4 .n)) (Ct.Node.Fit.nf f32 (by omega))).mono ?_)
 rintro _ w ⟨rfl,h⟩
 refine⟨_,rfl,?_⟩
 refine st (mv rfl)<|st (xr rfl rfl)<|st (xr rfl rfl)<|st (sg rfl)<|st (sg rfl)<|xe<|nx<|sq<|sq<|rg<|st (mv rfl)<|st (mv rfl)<|cl (ca eF rfl) ((aN xb mb (Ct.X.of c y1) (Ct.aB ((Ct.X.of c y1).node f.1) i).1 (h.fr (.c r5 .n)) k.dR).mono ?_)
 rintro _ w ⟨p49,rfl,h⟩
 have f50:=k.lN (Ct.aB ((Ct.X.of c y1).node f.1) i).1
 have bf50:=k.len
 have bp9:=f50.1.2.1
 refine⟨_,rfl,?_⟩
 refine sf (al h Ty)<|?_
 rintro _ w ⟨b51,rfl,h⟩
 refine sf (so h rfl rfl rfl qH rfl (.r (.r (.r (.r (.r (.r (.r (.r (.r (.r (.r (.r (.r (.r .d)))))))))))))) u0)<|?_
 rintro _ w h
 refine xe<|nx<|sq<|rg<|st (fa nN rfl)<|st (ld jE rfl (h.c a0 rfl))<|st (bi rfl rfl rfl)<|xe<|nx<|?_
 rcases dA ((((Ct.X.of c y1).node (Ct.aB ((Ct.X.of c y1).node f.1) i).1).kind:Int)==4)with hd52|hd52
 have hg53:=eq_of_beq hd52
 refine ct rfl hd52<|sq<|dZ [1,3,5,7,9,11,12,14,16] (by kernel_rfl) h (.c r9 (.c r0 .n)) λw h=>tk (λW H=>gJ rfl (dK (H.b a0)) lG)<|tk (λW H=>fa Ep rfl)<|tk (λW H=>ld uK rfl (H.c a1 rfl))<|tk (λW H=>fa VV rfl)<|tk (λW H=>ld vV rfl (H.c a1 rfl))<|tk (λW H=>bd [.string ((Ct.X.of c y1).node (Ct.aB ((Ct.X.of c y1).node f.1) i).1).key,.int .u64 ((((Ct.X.of c y1).node (Ct.aB ((Ct.X.of c y1).node f.1) i).1).value:Nat):Int)] CI rfl (by kernel_rfl))<|ff (so h rfl rfl rfl Bj rfl (.r (.r (.r .d))) K3)<|?_
 rintro _ w h
 refine⟨h.hs (.c r9 (.c r0 .n)),?_⟩
 refine ff (so h rfl rfl rfl xO rfl (.r (.r .d)) K9)<|?_
 rintro _ w h
 refine⟨h.hs (.c r9 (.c r0 .n)),?_⟩
 refine ef (sg rfl) (h.hs (.c r9 (.c r0 .n)))<|xz<|nx<|rt<|tr<|bt<|tr<|bt<|tr<|?_
 refine rr (FG results156 rfl (h.b a12) lG rfl (h.b N7) Ak rfl)<|?_
 rw[hw]at h hP9
 exact⟨_,⟨⟨true,(f.1,i+1)::fl,[]⟩,⟨((Ct.X.of c y1).node (Ct.aB ((Ct.X.of c y1).node f.1) i).1).key,((Ct.X.of c y1).node (Ct.aB ((Ct.X.of c y1).node f.1) i).1).value⟩,true⟩,⟨p47,c48,p2,c2⟩,hq.trans (by rw[hf,hw];exact Ct.PN hx2.1 (dP hd43) (eq_of_beq hd52) rfl),by rw[hw];rfl,(h.fr (.c r0 (.c r0 (.c r1 (.c r2 (.c r2 (.c r2 (.c r2 (.c r2 (.c r2 (.c r3 (.c r3 .n)))))))))))).drop.drop.drop.drop.drop.drop.drop.drop.drop.drop.drop,k,hP9.one hd18 hx2.2.1 (by have:=dP hd43;omega)⟩
 have hg54:=dP hd52
 refine cf rfl hd52<|sk<|nx<|rg<|st (mv rfl)<|st (gJ rfl (dK (h.b a9)) lG)<|st (mv rfl)<|cl (ca eF rfl) ((TW xb mb y1 c true ((f.1,i+1)::fl) wt1 p47 c48 p2 c2 (Ct.aB ((Ct.X.of c y1).node f.1) i).1 (h.fr (.c r2 (.c r3 (.c r9 .n)))) k (by have:=hfs9;(try simp only[QR]);omega) (by omega)).mono ?_)
 rintro _ w ⟨y60,ve56,qe57,q58,rfl,h,k,he59⟩
 obtain⟨z55,rfl⟩:=Ct.mB q58
 have lq58:=Ct.nY q58
 refine⟨_,rfl,?_⟩
 refine sf (so h rfl rfl rfl Bj rfl (.r (.r (.r .d))) u10)<|?_
 rintro _ w h
 refine xe<|bn<|nx<|?_
 rw[show ve56.started=true from he59.2.1]at h
 rw[hw]at q58 he59 hP9
 exact⟨(z55,n,ve56.stack,ve56.wait,qe57.ps,qe57.cs,qe57.pw,qe57.cw),⟨rfl,rfl,rfl,rfl,trivial⟩,⟨((h.fr (.c r3 (.c r3 (.c r3 (.c r3 (.c r3 (.c r3 (.c r3 (.c r4 .n))))))))).drop.drop.drop.drop.drop.drop.drop.drop.fr (.c r0 (.c r2 (.c r0 (.c r0 (.c r0 (.c r0 .n))))))),(hq.trans (by rw[hf,hw];exact Ct.DC hx2.1 (dP hd43) (dP hd52) q58 (Ct.Yc he59.2.1))),k,(hP9.enter hd18 hx2.2.1 (by have:=dP hd43;omega) he59),(he59.1.imp id λh9=>by(try dsimp only);omega)⟩,(by have h9:=he59.2.2.1;rcases h9 with h9|⟨m9,h9⟩<;>(dsimp only;rw[h9];simp only[QR];omega))⟩
 have hd61:(Ct.X.of c y1).e.aC=true:=(bI _).mp hd17
 refine cf rfl hd17<|xt<|tx<|tx<|be<|nx<|sq<|rg<|st (gJ rfl (dK (h.b a1)) lG)<|st (bd [.string .empty,.int .u64 0] CI rfl (by kernel_rfl))<|sf (so h rfl rfl rfl Bj rfl (.r (.r (.r .d))) u4)<|?_
 rintro _ w h
 refine sf (so h rfl rfl rfl xO rfl (.r (.r .d)) u5)<|?_
 rintro _ w h
 refine st (sg rfl)<|xe<|nx<|rt<|?_
 refine rr (FG results156 rfl (h.b a4) lG rfl (h.b a5) Ak rfl)<|⟨_,⟨⟨true,fs1,wt1⟩,⟨.empty,0⟩,false⟩,⟨p1,c1,p2,c2⟩,hq.trans (Ct.rS hd61),rfl,(h.fr (.c r1 (.c r3 (.c r3 .n)))).drop.drop.drop,k,.inl hd61⟩
theorem T7(xb mb:Nat)(x:Ct.X)(c:Ct.Call)(F:Nat)(h:SH B w (XA xb mb (Ct.X.of c x)::L))(k:Ct.Ok 60 (Ct.X.of c x))(hx:(Ct.X.of c x).left<F)(hF:F<=100000000000):
  Calls prog 157 #[↑xb] w λe w'=>∃y v,Ct.aX (Ct.zY c.aE F (Ct.Mz F) 0 {}) (Ct.X.of c x)=Ct.out y v/\e=.returned (.agg (xC v).toArray)/\SH B w' (XA xb mb y::L)/\Ct.Ok 60 y:=by
 have hlen:=k.len
 have k0:=k
 refine Ea (args:=[_]) func157 rfl ntmps157 rfl ?_
 refine sq<|rg<|sf (al h i2)<|?_
 rintro _ w ⟨b1,rfl,h⟩
 refine xe<|nx<|sq<|rg<|st (bd [↑false,.slice none 0 0,.slice none 0 0] H' rfl (by kernel_rfl))<|sf (al h k9)<|?_
 rintro _ w ⟨b2,rfl,h⟩
 refine st (sg rfl)<|sf (so h rfl rfl rfl Bj rfl (.r (.r (.r .d))) u0)<|?_
 rintro _ w h
 refine st (sg rfl)<|xe<|nx<|sq<|bk<|?_
 have h:=SH.fz (SH.nil 120 2 h)
 have h:=SH.fz (SH.nil 211 2 h)
 refine lp (α:=Ct.X×Nat×Int×Bool×List (Int×Int)×List Ct.bN×Option Addr×Nat×Option Addr×Nat) (λρ=>(.c 0 ↑xb (.c 2 ↑b1 (.c 3 (.int .i64 ρ.2.2.1) (.c 4 ↑b2 .n))))) (λρ w=>SH B w (XA xb mb (Ct.X.of c ρ.1)::bl b2 ([.bool ρ.2.2.2.1,.slice ρ.2.2.2.2.2.2.1 ρ.2.2.2.2.1.length ρ.2.2.2.2.2.2.2.1,.slice ρ.2.2.2.2.2.2.2.2.1 ρ.2.2.2.2.2.1.length ρ.2.2.2.2.2.2.2.2.2]) 58::bV 2 (.slice ρ.2.2.2.2.2.2.1 ρ.2.2.2.2.1.length ρ.2.2.2.2.2.2.2.1) ρ.2.2.2.2.1.length (ρ.2.2.2.2.1.reverse.flatMap NI)::bV 2 (.slice ρ.2.2.2.2.2.2.2.2.1 ρ.2.2.2.2.2.1.length ρ.2.2.2.2.2.2.2.2.2) ρ.2.2.2.2.2.1.length (ρ.2.2.2.2.2.1.flatMap aR)::bl b1 ([.int .i64 0,↑false,.int .u64 0,.string .empty,.int .i64 0,.int .i64 0,.int .i64 0,↑false]) 49::L)/\(Ct.aX (Ct.zY c.aE F (Ct.Mz F) 0 {}) (Ct.X.of c x)=Ct.aX (Ct.zY c.aE F ρ.2.1 ρ.2.2.1 ⟨ρ.2.2.2.1,ρ.2.2.2.2.1,ρ.2.2.2.2.2.1⟩) (Ct.X.of c ρ.1))/\(Ct.Ok 60 (Ct.X.of c ρ.1))/\(Ct.LA F (Ct.X.of c ρ.1) ρ.2.1 ⟨ρ.2.2.2.1,ρ.2.2.2.2.1,ρ.2.2.2.2.2.1⟩)) (λρ=>ρ.2.1) (x,(Ct.Mz F),0,false,[],[],none,0,none,0) ⟨rfl,rfl,rfl,rfl,trivial⟩ ⟨(h.fr (.c r4 (.c r2 (.c r0 (.c r0 (.c r0 .n)))))),rfl,k,(.start hx hF)⟩ ?_
 rintro⟨y1,cu,kk,sd,fs,wt,p1,c1,p2,c2⟩ w ⟨h,hq,k,hC⟩
 dsimp only at *
 refine sq<|sq<|rg<|st (mv rfl)<|st (nc rfl rfl)<|st (fa nB rfl)<|st (ld (v:=.bool (Ct.X.of c y1).e.aC) xN rfl (h.xc a0 λ_=>rfl))<|st (nt rfl)<|xe<|nx<|?_
 rcases dA (!(Ct.X.of c y1).e.aC)with hd3|hd3
 have hd4:(Ct.X.of c y1).e.aC=false:=(lC _).mp hd3
 refine ct rfl hd3<|sk<|nx<|bk<|sq<|sq<|?_
 obtain⟨cu,rfl⟩:=hC.pos hd4
 have hC9:=hC.resolve_left (by rw[hd4];decide)
 refine rg<|st (mv rfl)<|st (gJ rfl (dK (h.b a1)) lG)<|cl (ca eF rfl) ((Y8 xb mb y1 c F sd fs wt p1 c1 p2 c2 (h.fr (.c r0 (.c r1 (.c r1 .n)))) k hC9.2.2.2.2 hF (by have:=hC9.2.1;dsimp only at this;omega) hC9.2.2.1 hC9.2.2.2.1).mono ?_)
 rintro _ w ⟨y10,ve6,qe7,q8,rfl,h,k,he9⟩
 obtain⟨z5,rfl⟩:=Ct.mB q8
 have lq8:=Ct.nY q8
 refine⟨_,rfl,?_⟩
 refine st (mv rfl)<|st (xr rfl rfl)<|st (xr rfl rfl)<|st (xr rfl rfl)<|sf (so h rfl rfl rfl Bj rfl (.r (.r (.r .d))) u3)<|?_
 rintro _ w h
 refine st (sg rfl)<|xe<|nx<|sq<|rg<|st (mv rfl)<|st (nt rfl)<|xe<|nx<|?_
 rcases dA (!ve6.ok)with hd11|hd11
 have hd12:ve6.ok=false:=(lC _).mp hd11
 refine ct rfl hd11<|xt<|tx<|bo rfl<|tx<|be<|nx<|sq<|rg<|st (mv rfl)<|st (bd [.int .i64 0,↑false,.int .u64 0,.string .empty,↑kk,.int .i64 0,.int .i64 0,↑false] N4 rfl (by kernel_rfl))<|sf (so h rfl rfl rfl oG rfl (.r (.r (.r (.r (.r (.r (.r (.r .d)))))))) u4)<|?_
 rintro _ w h
 refine xe<|nx<|rt<|?_
 refine rr (bP results157 rfl (h.b a4) vD)<|⟨_,{count:=kk},hq.trans (Ct.rB q8 (Ct.rT (by rw[hd12];rfl) Ct.rR)),rfl,(h.fr (.c r1 (.c r1 (.c r1 (.c r1 .n))))).drop.drop.drop.drop,k⟩
 have hd13:ve6.ok=true:=(bI _).mp hd11
 refine cf rfl hd11<|sk<|nx<|rg<|st (mv rfl)<|st (bi rfl rfl rfl)<|st (sg rfl)<|xe<|bn<|nx<|?_
 exact⟨(z5,cu,(Ct.wr (kk+1)),ve6.w.started,ve6.w.stack,ve6.w.wait,qe7.ps,qe7.cs,qe7.pw,qe7.cw),⟨rfl,rfl,rfl,rfl,trivial⟩,⟨(h.fr (.c r0 (.c r2 (.c r0 (.c r0 (.c r0 .n)))))),(hq.trans (Ct.rB q8 (Ct.rF (by rw[hd13];rfl) rfl))),k,(hC.next hd4 he9 hd13)⟩,by(try dsimp only);omega⟩
 have hd14:(Ct.X.of c y1).e.aC=true:=(bI _).mp hd3
 refine cf rfl hd3<|xt<|tx<|tx<|be<|nx<|sq<|rg<|st (mv rfl)<|st (bd [.int .i64 0,↑false,.int .u64 0,.string .empty,↑kk,.int .i64 0,.int .i64 0,↑false] N4 rfl (by kernel_rfl))<|sf (so h rfl rfl rfl oG rfl (.r (.r (.r (.r (.r (.r (.r (.r .d)))))))) u4)<|?_
 rintro _ w h
 refine xe<|nx<|rt<|?_
 refine rr (bP results157 rfl (h.b a4) vD)<|⟨_,{count:=kk},hq.trans (Ct.rS hd14),rfl,(h.fr (.c r1 (.c r1 (.c r1 (.c r1 .n))))).drop.drop.drop.drop,k⟩
end Go.Q9
end
