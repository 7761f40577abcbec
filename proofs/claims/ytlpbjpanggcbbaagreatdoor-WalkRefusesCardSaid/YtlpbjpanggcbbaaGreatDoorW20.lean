/- Parts of a proof: Wf, Azg, Gr, C6, E14. -/
import Derived.Test.YtlpbjpanggcbbaaGreatDoorW19
set_option linter.unusedVariables false
set_option linter.unusedSimpArgs false
set_option maxRecDepth 100000
set_option maxHeartbeats 4000000
section
namespace Go.Q9
open Go.Proofs.Tryz
open Go.RowKit Go.E
open Go.Ct (qN qA qC qG qT qF)
attribute [local irreducible] gB wpS
variable{B w:World}{L:List As}
def tC{β γ:Type}(S:dN)(pb:Nat)(hd:S.d+1<=349)(ρ:β->Ct.Result)(M:β->As)(X:As)(F:γ->Cc->As)(n:Nat):Prop:=∀(tb kk:Nat) (th:Fv) (k:β->Ct.I γ) (u:Ct.I β) (v:Int) (b:Bool) (B w:World) (L:List As) (s:Ct.St),SH B w (dJ (lG S pb hd) (qD ρ M) n tb u kk::bl pb ([S.v,↑v,.bool b]) 134::X::JJ S F n 70 (Ec ρ) (λb=>se [M b,X]) k th::S.a s::L)->Ct.Rm 75 s->(∀i,Ct.RZ i u)->kk+n<=8000000000000000000->
 Calls prog 92 #[↑pb,↑tb,th.val] w λe w'=>CP S F n B (u.bind k) s L e w'
theorem Fw{β γ:Type}(S:dN)(pb:Nat)(hd:S.d+1<=349)(ρ:β->Ct.Result)(M:β->As)(X:As)(F:γ->Cc->As){m n:Nat}(hm:m<n)(hrec:tC S pb hd ρ M X F m)(cb0 cb1 cb2:Nat)(tb kk:Nat)(th:Fv)(k:β->Ct.I γ)(v:Int)(b:Bool)(a:Int)(f:Int->Ct.I β)(x:Int)(s:Ct.St)(h:SH B w (rb cb0 ([↑pb]) 132::rb cb1 ([↑tb]) 38::rb cb2 [th.val] 93::dJ (lG S pb hd) (qD ρ M) n tb (Ct.I.load a f) kk::bl pb ([S.v,↑v,.bool b]) 134::X::DP S F n 70 (Ec ρ) (λb=>se [M b,X]) k th::S.a s::L))(hs:Ct.Rm 100 s)(hfw:∀r,Ct.RZ 20 (f r))(hk:kk+n<=8000000000000000000):
  Calls prog 121 #[↑x,↑cb0,↑cb1,↑cb2] w λe w'=>CP S F m B ((f x).bind k) s L e w':=by
 have h:=NR hm (h.fr (.c r3 .n))
 have h:=NU hm (h.fr (.c r6 .n))
 refine Ea (args:=[_,_,_,_]) func121 rfl ntmps121 rfl ?_
 refine sq<|rg<|sf (al h nK)<|?_
 rintro _ w ⟨b1,rfl,h⟩
 refine xe<|nx<|sq<|rg<|st (ld Dk rfl (h.B8 a3 rfl))<|st (mv rfl)<|st (nc rfl rfl)<|st (fa Le rfl)<|sf (so h rfl rfl rfl pN rfl (.s (.r .d)) u6)<|?_
 rintro _ w h
 refine xe<|nx<|sq<|rg<|st (ld tM rfl (h.B8 a4 rfl))<|cl (ca eF rfl) ((Yb S pb hd x b m tb kk a f s (h.fr (.c r2 (.c r5 (.c r6 .n)))) hs (by omega)).mono ?_)
 rintro _ w ⟨s2,uz3,vz4,bz5,hq6,rfl,h⟩
 have hw':=(hfw x).head (j:=80) (s:=s) hs
 rw[hq6]at hw'
 refine⟨_,rfl,?_⟩
 refine xe<|nx<|sq<|rg<|st (ld Dk rfl (h.B8 a5 rfl))<|st (ld tM rfl (h.B8 a6 rfl))<|st (ld Sq rfl (h.B8 a7 rfl))<|cl (ca eF rfl) ((hrec tb (kk+1) th k uz3 vz4 bz5 _ _ _ s2 (h.fr (.c r0 (.c r0 (.c r6 (.c r2 (.c r0 .n)))))) (hw'.1.less (by decide)) hw'.2 (by omega)).mono ?_)
 rintro _ w ⟨s7,t8,c9,hq10,rfl,h⟩
 refine⟨_,rfl,?_⟩
 refine sf (so h rfl rfl rfl hK (eO _) (.r (.r (.r (.r (.r (.r (.r (.r (.r (.r (.r (.r (.r (.r .d)))))))))))))) u2)<|?_
 rintro _ w h
 refine xe<|nx<|rt<|?_
 refine rr (bP results121 rfl (h.b a2) iN)<|?_
 exact fI (Ct.BX hq6 (hq10)) (h.fr (.c r2 (.c r2 (.c r2 (.c r2 .n))))).drop.drop.drop.drop
theorem Fq{β γ:Type}(S:dN)(pb:Nat)(hd:S.d+1<=349)(ρ:β->Ct.Result)(M:β->As)(X:As)(F:γ->Cc->As){m n:Nat}(hm:m<n)(hrec:tC S pb hd ρ M X F m)(cb0 cb1 cb2:Nat)(tb kk:Nat)(th:Fv)(k:β->Ct.I γ)(v:Int)(b:Bool)(a o z:Int)(f:Bool->Ct.I β)(x:Bool)(s:Ct.St)(h:SH B w (rb cb0 ([↑pb]) 132::rb cb1 ([↑tb]) 38::rb cb2 [th.val] 93::dJ (lG S pb hd) (qD ρ M) n tb (Ct.I.eA a o z f) kk::bl pb ([S.v,↑v,.bool b]) 134::X::DP S F n 70 (Ec ρ) (λb=>se [M b,X]) k th::S.a s::L))(hs:Ct.Rm 100 s)(hfw:∀r,Ct.RZ 20 (f r))(hk:kk+n<=8000000000000000000):
  Calls prog 123 #[↑x,↑cb0,↑cb1,↑cb2] w λe w'=>CP S F m B ((f x).bind k) s L e w':=by
 have h:=NR hm (h.fr (.c r3 .n))
 have h:=NU hm (h.fr (.c r6 .n))
 refine Ea (args:=[_,_,_,_]) func123 rfl ntmps123 rfl ?_
 refine sq<|rg<|sf (al h nK)<|?_
 rintro _ w ⟨b1,rfl,h⟩
 refine xe<|nx<|sq<|rg<|st (ld Dk rfl (h.B8 a3 rfl))<|st (mv rfl)<|st (nc rfl rfl)<|st (fa Mz rfl)<|sf (so h rfl rfl rfl AU rfl (.s (.s (.r .d))) u6)<|?_
 rintro _ w h
 refine xe<|nx<|sq<|rg<|st (ld tM rfl (h.B8 a4 rfl))<|cl (ca eF rfl) ((GI S pb hd v x m tb kk a o z f s (h.fr (.c r2 (.c r5 (.c r6 .n)))) hs (by omega)).mono ?_)
 rintro _ w ⟨s2,uz3,vz4,bz5,hq6,rfl,h⟩
 have hw':=(hfw x).head (j:=80) (s:=s) hs
 rw[hq6]at hw'
 refine⟨_,rfl,?_⟩
 refine xe<|nx<|sq<|rg<|st (ld Dk rfl (h.B8 a5 rfl))<|st (ld tM rfl (h.B8 a6 rfl))<|st (ld Sq rfl (h.B8 a7 rfl))<|cl (ca eF rfl) ((hrec tb (kk+1) th k uz3 vz4 bz5 _ _ _ s2 (h.fr (.c r0 (.c r0 (.c r6 (.c r2 (.c r0 .n)))))) (hw'.1.less (by decide)) hw'.2 (by omega)).mono ?_)
 rintro _ w ⟨s7,t8,c9,hq10,rfl,h⟩
 refine⟨_,rfl,?_⟩
 refine sf (so h rfl rfl rfl hK (eO _) (.r (.r (.r (.r (.r (.r (.r (.r (.r (.r (.r (.r (.r (.r .d)))))))))))))) u2)<|?_
 rintro _ w h
 refine xe<|nx<|rt<|?_
 refine rr (bP results123 rfl (h.b a2) iN)<|?_
 exact fI (Ct.BX hq6 (hq10)) (h.fr (.c r2 (.c r2 (.c r2 (.c r2 .n))))).drop.drop.drop.drop
theorem Ht{β γ:Type}(S:dN)(pb:Nat)(hd:S.d+1<=349)(ρ:β->Ct.Result)(M:β->As)(X:As)(F:γ->Cc->As)(n:Nat)(hrec:∀j,j<n->tC S pb hd ρ M X F j)(tb kk:Nat)(th:Fv)(k:β->Ct.I γ)(v:Int)(b:Bool)(z:β)(s:Ct.St)(h:SH B w (dJ (lG S pb hd) (qD ρ M) n tb (Ct.I.ret z) kk::bl pb ([S.v,↑v,.bool b]) 134::X::JJ S F n 70 (Ec ρ) (λb=>se [M b,X]) k th::S.a s::L))(hs:Ct.Rm 75 s)(hfw:∀i,Ct.RZ i (Ct.I.ret z))(hk:kk+n<=8000000000000000000):
  Calls prog 92 #[↑pb,↑tb,th.val] w λe w'=>CP S F n B ((Ct.I.ret z).bind k) s L e w':=by
 refine Ea (args:=[_,_,_]) func92 rfl ntmps92 rfl ?_
 refine sq<|rg<|sf (bx h rfl rfl)<|?_
 rintro _ w ⟨b1,rfl,h⟩
 refine sf (bx h rfl rfl)<|?_
 rintro _ w ⟨b2,rfl,h⟩
 refine sf (bx h rfl (lE _))<|?_
 rintro _ w ⟨b3,rfl,h⟩
 refine sf (al h nK)<|?_
 rintro _ w ⟨b4,rfl,h⟩
 refine xe<|nx<|sq<|rg<|st (ld tM rfl (h.c a2 rfl))<|cl (ca eF rfl) ((Jg (lG S pb hd) n tb kk (Ct.I.ret z) (h.fr (.c r4 .n))).mono ?_)
 rintro _ w ⟨rfl,h⟩
 refine⟨_,rfl,?_⟩
 refine st (mv rfl)<|st (xr rfl rfl)<|st (xr rfl rfl)<|sf (al h IH)<|?_
 rintro _ w ⟨b5,rfl,h⟩
 refine sf (so h rfl rfl rfl IJ rfl (.r (.r (.r (.r .d)))) u0)<|?_
 rintro _ w h
 refine st (sg rfl)<|xe<|nx<|sq<|sq<|rg<|st (mv rfl)<|st (nt rfl)<|xe<|nx<|cT rfl<|sq<|dZ [1,3,4,6,8] (by kernel_rfl) h (.c r3 (.c r3 .n)) λw h=>tk (λW H=>ld Sq rfl (H.c a0 rfl))<|tk (λW H=>ld tM rfl (H.c a1 rfl))<|cs (ca eF rfl) ((Hm (lG S pb hd) n tb kk z (h.fr (.c r1 .n))).mono ?_)
 rintro _ w ⟨rfl,h⟩
 refine⟨_,rfl,h.hs (.c r3 (.c r3 .n)),?_⟩
 have h:=SH.is (l:=[M z,X]) (h.fr (.c r0 (.c r6 .n)))
 refine VM rfl rfl ((PK z (h.fr (.c r7 (.c r0 (.c r6 .n)))) (hs.less (by decide))).mono ?_)
 rintro _ w ⟨s6,t7,c8,hq9,rfl,h⟩
 refine⟨_,rfl,h.hs (.c r4 (.c r4 .n)),?_⟩
 refine ff (so h rfl rfl rfl hK (eO _) (.r (.r (.r (.r (.r (.r (.r (.r (.r (.r (.r (.r (.r (.r .d)))))))))))))) u3)<|?_
 rintro _ w h
 refine⟨h.hs (.c r4 (.c r4 .n)),?_⟩
 refine xz<|nx<|rt<|tr<|?_
 refine rr (bP results92 rfl (h.b a3) iN)<|?_
 exact fI (hq9) (h.fr (.c r2 (.c r2 (.c r2 (.c r2 (.c r2 (.c r2 .n))))))).drop.drop.drop.drop.drop.drop
theorem vX{β γ:Type}(S:dN)(pb:Nat)(hd:S.d+1<=349)(ρ:β->Ct.Result)(M:β->As)(X:As)(F:γ->Cc->As)(n:Nat)(hrec:∀j,j<n->tC S pb hd ρ M X F j)(tb kk:Nat)(th:Fv)(k:β->Ct.I γ)(v:Int)(b:Bool)(a:Int)(f:Int->Ct.I β)(s:Ct.St)(h:SH B w (dJ (lG S pb hd) (qD ρ M) n tb (Ct.I.load a f) kk::bl pb ([S.v,↑v,.bool b]) 134::X::DP S F n 70 (Ec ρ) (λb=>se [M b,X]) k th::S.a s::L))(hs:Ct.Rm 20 s)(hfw:∀i,Ct.RZ i (Ct.I.load a f))(hk:kk+n<=8000000000000000000):
  Calls prog 92 #[↑pb,↑tb,th.val] w λe w'=>CP S F n B ((Ct.I.load a f).bind k) s L e w':=by
 refine Ea (args:=[_,_,_]) func92 rfl ntmps92 rfl ?_
 refine sq<|rg<|sf (bx h rfl rfl)<|?_
 rintro _ w ⟨b1,rfl,h⟩
 refine sf (bx h rfl rfl)<|?_
 rintro _ w ⟨b2,rfl,h⟩
 refine sf (bx h rfl (lE _))<|?_
 rintro _ w ⟨b3,rfl,h⟩
 refine sf (al h nK)<|?_
 rintro _ w ⟨b4,rfl,h⟩
 refine xe<|nx<|sq<|rg<|st (ld tM rfl (h.c a2 rfl))<|cl (ca eF rfl) ((Jg (lG S pb hd) n tb kk (Ct.I.load a f) (h.fr (.c r4 .n))).mono ?_)
 rintro _ w ⟨rfl,h⟩
 refine⟨_,rfl,?_⟩
 refine st (mv rfl)<|st (xr rfl rfl)<|st (xr rfl rfl)<|sf (al h IH)<|?_
 rintro _ w ⟨b5,rfl,h⟩
 refine sf (so h rfl rfl rfl IJ rfl (.r (.r (.r (.r .d)))) u0)<|?_
 rintro _ w h
 refine st (sg rfl)<|xe<|nx<|sq<|sq<|rg<|st (mv rfl)<|st (nt rfl)<|xe<|nx<|cF rfl<|sk<|nx<|sq<|sq<|rg<|st (fa Vz rfl)<|st (ld jE rfl (h.c a0 rfl))<|st (bi rfl rfl rfl)<|xe<|nx<|cT rfl<|sq<|?_
 have h:=SH.kX (h.fr (.c r5 .n))
 have h:=SH.kX (h.fr (.c r5 .n))
 have h:=SH.kX (h.fr (.c r5 .n))
 refine rg<|st (fa Vi rfl)<|st (ld oQ rfl (h.c a3 rfl))<|st (mf rfl rfl)<|cl (ca eF rfl) ((jH a (.fn 121 [] [↑b1,↑b2,↑b3]) (h.fr .n)).mono ?_)
 rintro _ w ⟨rfl,h⟩
 refine⟨_,rfl,?_⟩
 refine sf (so h rfl rfl rfl hK (eO _) (.r (.r (.r (.r (.r (.r (.r (.r (.r (.r (.r (.r (.r (.r .d)))))))))))))) u5)<|?_
 rintro _ w h
 refine xe<|nx<|rt<|tr<|?_
 refine rr (bP results92 rfl (h.b a5) iN)<|?_
 have h:=h.fr (.c r2 (.c r1 (.c r0 (.c r1 (.c r2 (.c r2 (.c r2 .n)))))))
 have h:=Nt (S:=S) (F:=F) (n:=n) (args:=dQ) (k:=(λr=>(f r).bind k)) (v:=(.fn 121 [] [↑b1,↑b2,↑b3])) [rb b1 ([↑pb]) 132,rb b2 ([↑tb]) 38,rb b3 [th.val] 93,dJ (lG S pb hd) (qD ρ M) n tb (Ct.I.load a f) kk,bl pb ([S.v,↑v,.bool b]) 134,X,DP S F n 70 (Ec ρ) (λb=>se [M b,X]) k th] h λm' hm' B' w' L' s' x' h' hs'=>pR eF (Fw S pb hd ρ M X F hm' (hrec m' hm') b1 b2 b3 tb kk th k v b a f x' s' h' hs' (hfw 0) hk)
 have h:=kL (a:=a) h
 exact fI (rfl) (h.fr (.c r1 (.c r1 .n))).drop.drop
theorem xW{β γ:Type}(S:dN)(pb:Nat)(hd:S.d+1<=349)(ρ:β->Ct.Result)(M:β->As)(X:As)(F:γ->Cc->As)(n:Nat)(hrec:∀j,j<n->tC S pb hd ρ M X F j)(tb kk:Nat)(th:Fv)(k:β->Ct.I γ)(v:Int)(b:Bool)(a o z:Int)(f:Bool->Ct.I β)(s:Ct.St)(h:SH B w (dJ (lG S pb hd) (qD ρ M) n tb (Ct.I.eA a o z f) kk::bl pb ([S.v,↑v,.bool b]) 134::X::DP S F n 70 (Ec ρ) (λb=>se [M b,X]) k th::S.a s::L))(hs:Ct.Rm 20 s)(hfw:∀i,Ct.RZ i (Ct.I.eA a o z f))(hk:kk+n<=8000000000000000000):
  Calls prog 92 #[↑pb,↑tb,th.val] w λe w'=>CP S F n B ((Ct.I.eA a o z f).bind k) s L e w':=by
 refine Ea (args:=[_,_,_]) func92 rfl ntmps92 rfl ?_
 refine sq<|rg<|sf (bx h rfl rfl)<|?_
 rintro _ w ⟨b1,rfl,h⟩
 refine sf (bx h rfl rfl)<|?_
 rintro _ w ⟨b2,rfl,h⟩
 refine sf (bx h rfl (lE _))<|?_
 rintro _ w ⟨b3,rfl,h⟩
 refine sf (al h nK)<|?_
 rintro _ w ⟨b4,rfl,h⟩
 refine xe<|nx<|sq<|rg<|st (ld tM rfl (h.c a2 rfl))<|cl (ca eF rfl) ((Jg (lG S pb hd) n tb kk (Ct.I.eA a o z f) (h.fr (.c r4 .n))).mono ?_)
 rintro _ w ⟨rfl,h⟩
 refine⟨_,rfl,?_⟩
 refine st (mv rfl)<|st (xr rfl rfl)<|st (xr rfl rfl)<|sf (al h IH)<|?_
 rintro _ w ⟨b5,rfl,h⟩
 refine sf (so h rfl rfl rfl IJ rfl (.r (.r (.r (.r .d)))) u0)<|?_
 rintro _ w h
 refine st (sg rfl)<|xe<|nx<|sq<|sq<|rg<|st (mv rfl)<|st (nt rfl)<|xe<|nx<|cF rfl<|sk<|nx<|sq<|sq<|rg<|st (fa Vz rfl)<|st (ld jE rfl (h.c a0 rfl))<|st (bi rfl rfl rfl)<|xe<|nx<|cF rfl<|sk<|nx<|sq<|?_
 have h:=SH.kX (h.fr (.c r5 .n))
 have h:=SH.kX (h.fr (.c r5 .n))
 have h:=SH.kX (h.fr (.c r5 .n))
 refine rg<|st (fa Vi rfl)<|st (ld oQ rfl (h.c a3 rfl))<|st (fa IX rfl)<|st (ld fK rfl (h.c a3 rfl))<|st (fa KV rfl)<|st (ld fK rfl (h.c a3 rfl))<|st (mf rfl rfl)<|cl (ca eF rfl) ((iW a o z (.fn 123 [] [↑b1,↑b2,↑b3]) (h.fr .n)).mono ?_)
 rintro _ w ⟨rfl,h⟩
 refine⟨_,rfl,?_⟩
 refine sf (so h rfl rfl rfl hK (eO _) (.r (.r (.r (.r (.r (.r (.r (.r (.r (.r (.r (.r (.r (.r .d)))))))))))))) u5)<|?_
 rintro _ w h
 refine xe<|nx<|rt<|?_
 refine rr (bP results92 rfl (h.b a5) iN)<|?_
 have h:=h.fr (.c r2 (.c r1 (.c r0 (.c r1 (.c r2 (.c r2 (.c r2 .n)))))))
 have h:=Nt (S:=S) (F:=F) (n:=n) (args:=dV) (k:=(λr=>(f r).bind k)) (v:=(.fn 123 [] [↑b1,↑b2,↑b3])) [rb b1 ([↑pb]) 132,rb b2 ([↑tb]) 38,rb b3 [th.val] 93,dJ (lG S pb hd) (qD ρ M) n tb (Ct.I.eA a o z f) kk,bl pb ([S.v,↑v,.bool b]) 134,X,DP S F n 70 (Ec ρ) (λb=>se [M b,X]) k th] h λm' hm' B' w' L' s' x' h' hs'=>pR eF (Fq S pb hd ρ M X F hm' (hrec m' hm') b1 b2 b3 tb kk th k v b a o z f x' s' h' hs' (hfw 0) hk)
 have h:=kC (a:=a) (o:=o) (x:=z) h
 exact fI (rfl) (h.fr (.c r1 (.c r1 .n))).drop.drop
theorem Gl{β γ:Type}(S:dN)(pb:Nat)(hd:S.d+1<=349)(ρ:β->Ct.Result)(M:β->As)(X:As)(F:γ->Cc->As)(n:Nat):tC S pb hd ρ M X F n:=by
 induction n using Nat.strongRecOn with
 |ind n ih=>
  intro tb kk th k u v b B w L s h hs hfw hk
  have hr:=Pw h
  cases u with
  |ret z=>exact Ht S pb hd ρ M X F n ih tb kk th k v b z s h hs hfw hk
  |load a f=>exact vX S pb hd ρ M X F n ih tb kk th k v b a f s ((RY (h.fr (.c r3 .n))).fr (.c r1 (.c r1 (.c r1 (.c r0 .n))))) (hs.less (by decide)) hfw hk
  |eA a o z f=>exact xW S pb hd ρ M X F n ih tb kk th k v b a o z f s ((RY (h.fr (.c r3 .n))).fr (.c r1 (.c r1 (.c r1 (.c r0 .n))))) (hs.less (by decide)) hfw hk
  |_=>exact hr.elim
theorem Zh{β γ:Type}(S:dN)(pb:Nat)(hd:S.d+1<=349)(ρ:β->Ct.Result)(M:β->As)(X:As)(F:γ->Cc->As)(n tb kk:Nat)(th:Fv)(k:β->Ct.I γ)(u:Ct.I β)(v:Int)(b:Bool)(s:Ct.St)(h:SH B w (dJ (lG S pb hd) (qD ρ M) n tb u kk::bl pb ([S.v,↑v,.bool b]) 134::X::DP S F n 70 (Ec ρ) (λb=>se [M b,X]) k th::S.a s::L))(hs:Ct.Rm 20 s)(hu:u.ended=none)(hfw:∀i,Ct.RZ i u)(hk:kk+n<=8000000000000000000):
  Calls prog 92 #[↑pb,↑tb,th.val] w λe w'=>CP S F n B (u.bind k) s L e w':=by
 have hr:=Pw h
 cases u with
 |ret z=>cases hu
 |load a f=>exact vX S pb hd ρ M X F n (λj _=>Gl S pb hd ρ M X F j) tb kk th k v b a f s h hs hfw hk
 |eA a o z f=>exact xW S pb hd ρ M X F n (λj _=>Gl S pb hd ρ M X F j) tb kk th k v b a o z f s h hs hfw hk
 |_=>exact hr.elim
theorem Zm{β γ:Type}(S:dN)(hd:S.d+1<=349)(ρ:β->Ct.Result)(M:β->As)(X Y:As)(F:γ->Cc->As)(n:Nat)(sv th:Fv)(k:β->Ct.I γ)(t:Ct.I β)(s:Ct.St)(hst:∀(B w:World) (L:List As) (pb:Nat) (hd:S.d+1<=349),SH B w (bl pb ([S.v,.int .i64 0,↑false]) 134::Y::S.a s::L)->jK prog sv [.iface 132 (QQ pb)] w λe w'=>∃tb s1 u1 v1 b1,t.head s=(s1,u1)/\e=.returned (.pointer (some ⟨tb,0,none⟩))/\SH B w' (dJ (lG S pb hd) (qD ρ M) n tb u1 0::bl pb ([S.v,.int .i64 v1,.bool b1]) 134::X::S.a s1::L))(h:SH B w (Y::DP S F n 70 (Ec ρ) (λb=>se [M b,X]) k th::S.a s::L))(hs:Ct.Rm 60 s)(hfw:Ct.RZ 15 t)(hne:(t.head s).2.ended=none)(hk:n<=8000000000000000000):
  Calls prog 88 #[S.v,sv.val,th.val] w λe w'=>CP S F n B (t.bind k) s L e w':=by
 refine Ea (args:=[_,_,_]) func88 rfl ntmps88 rfl ?_
 refine sq<|rg<|sf (al h nK)<|?_
 rintro _ w ⟨b1,rfl,h⟩
 refine xe<|nx<|sq<|rg<|st (mv rfl)<|st (bd [S.v,.int .i64 0,↑false] OL rfl (by kernel_rfl))<|sf (bx h rfl rfl)<|?_
 rintro _ w ⟨b2,rfl,h⟩
 refine st (sg rfl)<|xe<|nx<|sq<|rg<|st (mv rfl)<|st (mv rfl)<|st (mv rfl)<|st (mi PN rfl rfl)<|PM rfl rfl ((hst _ _ _ b2 hd (h.fr (.c r0 (.c r1 (.c r2 .n))))).mono ?_)
 rintro _ w ⟨tb4,s3,uz5,vz6,bz7,hq8,rfl,h⟩
 have hw':=hfw.head (j:=45) (s:=s) hs
 have hn':=hne
 rw[hq8]at hw' hn'
 refine⟨_,rfl,?_⟩
 refine st (mv rfl)<|cl (ca eF rfl) ((Zh S b2 hd ρ M X F n tb4 0 th k uz5 vz6 bz7 s3 (h.fr (.c r0 (.c r0 (.c r0 (.c r2 (.c r0 .n)))))) (hw'.1.less (by decide)) hn' hw'.2 (by omega)).mono ?_)
 rintro _ w ⟨s9,t10,c11,hq12,rfl,h⟩
 refine⟨_,rfl,?_⟩
 refine sf (so h rfl rfl rfl hK (eO _) (.r (.r (.r (.r (.r (.r (.r (.r (.r (.r (.r (.r (.r (.r .d)))))))))))))) u2)<|?_
 rintro _ w h
 refine xe<|nx<|rt<|?_
 refine rr (bP results88 rfl (h.b a2) iN)<|?_
 exact fI (Ct.BX hq8 (hq12)) (h.fr (.c r2 .n)).drop
end Go.Q9
end
section
namespace Go.Q9
open Go.Proofs.Tryz
open Go.E
theorem BW:KY prog 180=some ([.nilIface,.int .i64 0,↑false],[(0,1),(1,2)]):=by kernel_rfl
theorem DO:(prog.info? 180).map (·.size)=some 3:=by kernel_rfl
theorem HZ:zc prog 180=some [.nilIface,.int .i64 0,↑false]:=by kernel_rfl
end Go.Q9
end
section
namespace Go.Q9
open Go.Proofs.Tryz
open Go.RowKit Go.E
open Go.Ct (qN qA qC qG qT qF)
attribute [local irreducible] gB wpS
abbrev JN:Ct.Result->Cc->As:=qD id DT
variable{B w:World}{L:List As}
theorem Yi(S:dN){n m:Nat}(hm:m<=n)(x:Int)(s:Ct.St)(h:SH B w (S.a s::L))(hs:Ct.Rm 60 s):
  Calls prog 120 #[↑x] w λe w'=>CP S JN m B ((λm_b=>.ret {ref:=m_b}) x) s L e w':=by
 refine Ea (args:=[_]) func120 rfl ntmps120 rfl ?_
 refine sq<|rg<|sf (al h nK)<|?_
 rintro _ w ⟨b1,rfl,h⟩
 refine xe<|nx<|sq<|rg<|st (mv rfl)<|st (bd [.int .i64 0,↑false,.int .u64 0,.string .empty,.int .i64 0,↑x,.int .i64 0,↑false] Ek rfl (by kernel_rfl))<|cl (ca eF rfl) ((gV ({ref:=x}:Ct.Result) (h.fr .n)).mono ?_)
 rintro _ w ⟨rfl,h⟩
 refine⟨_,rfl,?_⟩
 refine sf (so h rfl rfl rfl hK (eO _) (.r (.r (.r (.r (.r (.r (.r (.r (.r (.r (.r (.r (.r (.r .d)))))))))))))) u0)<|?_
 rintro _ w h
 refine xe<|nx<|rt<|?_
 refine rr (bP results120 rfl (h.b a0) iN)<|?_
 have h:=kG (S:=S) (n:=m) (ρ:=id) (M:=DT) ({ref:=x}:Ct.Result) (SH.is (l:=[]) h)
 exact fI (rfl) (h.fr (.c r1 .n)).drop
theorem Ym(S:dN)(cb0 cb1:Nat)(t:Ct.bC)(i:Int){n m:Nat}(hm:m<=n)(s:Ct.St)(h:SH B w (rb cb0 ([S.v,↑t.root,↑t.readOnly]) 180::rb cb1 ([↑i]) 43::S.a s::L))(hs:Ct.Rm 60 s):
  Calls prog 118 #[↑cb0,↑cb1] w λe w'=>CP S JN m B ((λ_=>Ct.mM t i (λm_b=>.ret {ref:=m_b})) ()) s L e w':=by
 refine Ea (args:=[_,_]) func118 rfl ntmps118 rfl ?_
 refine sq<|rg<|sf (al h nK)<|?_
 rintro _ w ⟨b1,rfl,h⟩
 refine xe<|nx<|sq<|rg<|st (gJ rfl (dK (h.rb a1)) KC)<|st (ld fK rfl (h.B8 a2 rfl))<|?_
 have h:=h.fr .n
 have h:=Me (j:=60) (S:=S) (F:=JN) (n:=m) (args:=dQ) (k:=(λm_b=>.ret {ref:=m_b})) (v:=(.fn 120 [] [])) [] h λm' hm' B' w' L' s' x' h' hs'=>pR eF (Yi S (Nat.le_of_lt hm') x' s' h' (hs'.less (by decide)))
 refine cl (ca eF rfl) ((jZ S JN t i (.fn 120 [] []) (λm_b=>.ret {ref:=m_b}) m s (h.fr (.c r0 (.c r3 .n))) (hs.less (by decide))).mono ?_)
 rintro _ w ⟨s2,t3,c4,hq5,rfl,h⟩
 refine⟨_,rfl,?_⟩
 refine sf (so h rfl rfl rfl hK (eO _) (.r (.r (.r (.r (.r (.r (.r (.r (.r (.r (.r (.r (.r (.r .d)))))))))))))) u2)<|?_
 rintro _ w h
 refine xe<|nx<|rt<|?_
 refine rr (bP results118 rfl (h.b a2) iN)<|?_
 exact fI (hq5) (h.fr (.c r2 (.c r2 (.c r2 .n)))).drop.drop.drop
theorem Nw(S:dN)(N:Nat)(t:Ct.bC)(i:Int)(s:Ct.St)(h:SH B w (S.a s::L))(hs:Ct.Rm 60 s):
  Calls prog 87 #[S.v,.agg [↑t.root,↑t.readOnly].toArray,↑i] w λe w'=>∃tb s' u,(Ct.mM t i (λm=>.ret {ref:=m})).head s=(s',u)/\e=.returned (.pointer (some ⟨tb,0,none⟩))/\SH B w' (dJ S JN N tb u 0::S.a s'::L):=by
 refine Ea (args:=[_,_,_]) func87 rfl ntmps87 rfl ?_
 refine sq<|rg<|sf (bx h rfl rfl)<|?_
 rintro _ w ⟨b1,rfl,h⟩
 refine sf (bx h rfl rfl)<|?_
 rintro _ w ⟨b2,rfl,h⟩
 refine st (sg rfl)<|xe<|nx<|sq<|rg<|st (mv rfl)<|st (gJ rfl (dK (h.b a1)) nW)<|st (bd [S.v,↑t.root,↑t.readOnly] BW rfl (by kernel_rfl))<|sf (al h HZ)<|?_
 rintro _ w ⟨b3,rfl,h⟩
 refine sf (so h rfl rfl rfl DO rfl (.r (.r (.r .d))) u0)<|?_
 rintro _ w h
 refine xe<|nx<|sq<|?_
 have h:=SH.kX (h.fr (.c r0 .n))
 have h:=SH.kX (h.fr (.c r1 .n))
 refine rg<|st (mv rfl)<|st (mf rfl rfl)<|?_
 have h:=h.eT a0
 have h:=h.eT a2
 have h:=h.fr (.c r0 (.c r0 .n))
 have h:=YZ (S:=S) (F:=JN) (n:=N) (j:=60) (args:=qI) (k:=(λ_=>Ct.mM t i (λm_b=>.ret {ref:=m_b}))) (v:=(.fn 118 [] [↑b3,↑b2])) [rb b3 ([S.v,↑t.root,↑t.readOnly]) 180,rb b2 ([↑i]) 43] h λB' w' L' s' x' h' hs'=>pR eF (Ym S b3 b2 t i (Fk _) s' h' (hs'.less (by decide)))
 refine cl (ca eF rfl) ((Td S JN N (.fn 118 [] [↑b3,↑b2]) (λ_=>Ct.mM t i (λm_b=>.ret {ref:=m_b})) s (h.fr (.c r0 (.c r3 .n))) (hs.less (by decide))).mono ?_)
 rintro _ w ⟨tb4,s5,uz6,hq7,rfl,h⟩
 refine⟨_,rfl,?_⟩
 refine st (sg rfl)<|xe<|nx<|rt<|?_
 refine rr (jP results87 rfl)<|⟨tb4,s5,uz6,hq7,rfl,(h.fr (.c r2 (.c r2 (.c r2 .n)))).drop.drop.drop⟩
end Go.Q9
end
section
namespace Go.Ct
variable{α β γ:Type}
structure Place where
 node:Node:={}
 next:Int:=0
structure nN where
 started:Bool:=false
 stack:List Place:=[]
 wait:List bN:=[]
def nN.meet(w:nN)(m:Node):nN:=
 bif m.kind==3 then⟨w.started,⟨m,0⟩::w.stack,w.wait⟩else bif m.kind==5 then⟨w.started,w.stack,w.wait++[⟨m.key,m.value⟩]⟩else bif m.kind==6 then⟨w.started,w.stack,w.wait++m.aF⟩else w
def Place.pos(p:Place):Nat:=Bm.aO p.node.aD p.next
def Place.idx(p:Place):Int:=Bm.at_ p.node.aD (p.pos:Int)
def Place.out(p:Place):Bool:=decide (p.idx<0)||decide ((p.node.aA.length:Int)<=(p.pos:Int))
def Place.branch(p:Place):Int:=p.node.aA.getD p.pos 0
def Place.step(p:Place):Place:=⟨p.node,p.idx+1⟩
def Ey(p:bN):Result:={found:=true,key:=p.key,value:=p.value}
def Kt(t:bC)(st:Bool)(K:nN->I (Result×nN)):List Place->I (Result×nN)
 |[]=>.ret ({},⟨st,[],[]⟩)
 |p::l=>bif p.out then Kt t st K l else .node p.branch λs=>
  bif s.kind==4 then .ret (Ey ⟨s.key,s.value⟩,⟨st,p.step::l,[]⟩)else mM t p.branch λm=>.node m λq=>K (nN.meet ⟨st,p.step::l,[]⟩ q)
def Ul(t:bC)(K:nN->I (Result×nN))(w:nN):I (Result×nN):=match w.wait with
 |p::ps=>.ret (Ey p,⟨w.started,w.stack,ps⟩)
 |[]=>Kt t w.started K w.stack
def hB(t:bC):Nat->nN->I (Result×nN)
 |0,w=>Ul t (λw=>.ret ({},w)) w
 |n+1,w=>Ul t (hB t n) w
def qH(t:bC)(n:Nat)(w:nN)(i:Int):I (Result×nN):=mM t i λm=>.node m λq=>hB t n (w.meet q)
def Bj(t:bC)(n:Nat)(w:nN):I (Result×nN):=
 bif !t.readOnly then .ret ({err:=7},w)else bif w.started then hB t n w else .load t.root λr=>qH t n ⟨true,w.stack,w.wait⟩ r
theorem Eo{c:Bool}{a b:I α}{f:α->I β}:(bif c then a else b).bind f=bif c then a.bind f else b.bind f:=by cases c<;>rfl
theorem Xv(t:bC)(v s:Int)(k:Int->I α)(f:α->I β):(iD t v s k).bind f=iD t v s λm=>(k m).bind f:=by
 unfold iD;simp only[I.bind,Eo]
theorem Sy(t:bC)(k:Int->I α)(f:α->I β):(Zi t k).bind f=Zi t λm=>(k m).bind f:=by
 unfold Zi;simp only[I.bind,Eo,Xv]
theorem Py(t:bC)(i:Int)(k:Int->I α)(f:α->I β):(mM t i k).bind f=mM t i λm=>(k m).bind f:=by
 unfold mM qB kY mK Dq;simp only[I.bind,Eo,Sy]
end Go.Ct
namespace Go.Ct
variable{α β γ:Type}
theorem LH{a:α}{j:Nat}:RZ j (.ret a):=trivial
structure xI(n:Nat)(it:nN):Prop where
 fit:∀p∈it.stack,p.node.Fit 100000000001
 deep:it.stack.length+n<=1000000000
 wait:it.wait.length<=200000000003
theorem xI.less{m n:Nat}{it:nN}(h:xI n it)(hm:m<=n):xI m it:=⟨h.fit,by have:=h.deep;omega,h.wait⟩
theorem xI.meet{n:Nat}{sd:Bool}{l:List Place}{q:Node}(h:xI (n+1) ⟨sd,l,[]⟩)(hq:q.Fit 100000000001):xI n (nN.meet ⟨sd,l,[]⟩ q):=by
 have hp:=hq.1.2.1
 have hd:=h.deep
 unfold nN.meet
 cases h3:(q.kind==3)with
 |true=>
  refine⟨λp hp=>?_,?_,by simp⟩
  ·rcases List.mem_cons.1 hp with rfl|hp
   ·exact hq
   ·exact h.fit p hp
  ·show (_::l).length+n<=_;rw[mQ];dsimp only at hd;omega
 |false=>
  cases h5:(q.kind==5)with
  |true=>exact⟨h.fit,by dsimp only[cond_true,cond_false]at *;omega,by simp⟩
  |false=>
   cases h6:(q.kind==6)with
   |true=>exact⟨h.fit,by dsimp only[cond_true,cond_false]at *;omega,by dsimp only[cond_true,cond_false];rw[xE];omega⟩
   |false=>exact⟨h.fit,by dsimp only[cond_true,cond_false]at *;omega,by simp⟩
theorem GX(t:bC)(N:Nat)(w:nN)(x:Int)(s:St):(qH t N w x).head s=((mM t x λm=>(.ret {ref:=m}:I Result)).bind λr=>.node r.ref λq=>hB t N (w.meet q)).head s:=by
 rw[Py];rfl
end Go.Ct
end
section
namespace Go.E
open Go.RowKit
variable{B w:World}{L:List As}{P:Program}{n:Nat}{K:iG}{e:Tm}{ops:Array Oper}{l:List Oper}
variable{L':List As}{d:Option Tmp}{ty:TypeId}{ps:String}{af:Array Edge}{g:Option (Nat×Bool)}
theorem Kk{α:Type}{enc:α->List Value}{sz:Nat}(he:∀x,(enc x).length=sz):∀(xs:List α) (k:Nat),(xs.flatMap enc).take (k*sz)=(xs.take k).flatMap enc
 |[],k=>by simp
 |x::xs,0=>by simp
 |x::xs,k+1=>by
  rw[dF,List.take_succ_cons,dF,<- Kk he xs k,List.take_append,he x,Nat.succ_mul,yM (by rw[he x];omega),Nat.add_sub_cancel]
theorem N4{t el:TypeId}{x y:Operand}{b c m i o sz:Nat}{q:IntKind}{a:Int}{xs:List Value}(h:SH B w L)(hT:(P.info? t).map (·.size)=some 1)(hx:ev n e x=some (.pointer (some ⟨b,0+i*sz+o,none⟩)))(hy:ev n e y=some (.int q a))(hj:i*sz+o<m*sz)
  (up:sJ L L' (aU el sz (.slice (some ⟨b,0,none⟩) m c) m xs) (aU el sz (.slice (some ⟨b,0,none⟩) m c) m (xs.set (i*sz+o) (.int q a)))):F P n e ⟨d,.store t x y,ty,ps,af,g⟩ w λ_ w'=>SH B w' L':=by
 rw[lC]at hx
 generalize i*sz+o=j at hx hj up
 obtain⟨mm,m0,m1,_⟩:=up.ix
 have hown:w.ownsRow 0 el sz (.slice (some ⟨b,0,none⟩) m c) m xs:=by obtain⟨_,O,R,hp,_⟩:=h;exact(hp mm _ m1).1
 obtain⟨o1,o2⟩:=hown.stored j (.int q a)
 refine⟨undef,w.setCell ⟨b,j,none⟩ (.int q a),.inr ⟨λf hf=>?_,rfl⟩,Hq h up o2 o1 λk hk=>.inl hk⟩
 have hc:=World.ownsRow.cellAt hown j hj
 have hfz:=World.ownsRow.frozenAt hown j
 rw[DI (by rw[hown.1];exact hj)]at hc
 cases hq:P.info? t with
 |none=>rw[hq]at hT;cases hT
 |some i=>
  rw[hq]at hT
  have h4:i.size=1:=by simpa using hT
  have h5:(⟨b,j,none⟩:Addr).add 0=⟨b,j,none⟩:=rfl
  simp[execOp,hf.eval hx,hf.eval hy,Instr.storeAt,Instr.sureAddr,storeVar,sizeOf,typeInfo,hq,h4,Value.cells,storeCells,store,Sem.run,h5,hc,hfz]
end Go.E
end
