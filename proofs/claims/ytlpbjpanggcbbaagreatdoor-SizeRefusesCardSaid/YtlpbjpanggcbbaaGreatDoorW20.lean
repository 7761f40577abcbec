/- Parts of a proof: Wf, Azg, Gr, C6, Azh. -/
import Derived.Test.YtlpbjpanggcbbaaGreatDoorW19
set_option linter.unusedVariables false
set_option linter.unusedSimpArgs false
set_option maxRecDepth 100000
set_option maxHeartbeats 4000000
section
namespace Go.Q9
open Go.Proofs.Tryz
open Go.RowKit Go.E
open Go.Ct (qN qA qC qG qT qF)
attribute [local irreducible] gB wpS
variable{B w:World}{L:List As}
def vC{β γ:Type}(S:dN)(pb:Nat)(hd:S.d+1<=349)(ρ:β->Ct.Result)(M:β->As)(X:As)(Q:Nat->β->Prop)(F:γ->Cc->As)(n:Nat):Prop:=∀(tb kk:Nat) (th:Fv) (k:β->Ct.I γ) (u:Ct.I β) (v:Int) (b:Bool) (B w:World) (L:List As) (s:Ct.St),SH B w (eQ (nA S pb hd) (tM ρ M) n tb u kk::bl pb ([S.v,↑v,.bool b]) 134::X::Vz S F (n+1) 70 (Ek ρ) (λb=>se [M b,X,Qo S pb]) Q k th::S.a s::L)->Ct.Rm 75 s->(∀i,Ct.RZ i u)->Ct.dJ Q n u->kk+n<=8000000000000000000->
 Calls prog 92 #[↑pb,↑tb,th.val] w λe w'=>CP S F n B (u.bind k) s L e w'
theorem Le{β γ:Type}(S:dN)(pb:Nat)(hd:S.d+1<=349)(ρ:β->Ct.Result)(M:β->As)(X:As)(Q:Nat->β->Prop)(F:γ->Cc->As){m n:Nat}(hm:m<n)(hrec:vC S pb hd ρ M X Q F m)(cb0 cb1 cb2:Nat)(tb kk:Nat)(th:Fv)(k:β->Ct.I γ)(v:Int)(b:Bool)(a:Int)(f:Int->Ct.I β)(x:Int)(s:Ct.St)(h:SH B w (rb cb0 ([↑pb]) 132::rb cb1 ([↑tb]) 38::rb cb2 [th.val] 93::eQ (nA S pb hd) (tM ρ M) n tb (Ct.I.load a f) kk::bl pb ([S.v,↑v,.bool b]) 134::X::Vz S F n 70 (Ek ρ) (λb=>se [M b,X,Qo S pb]) Q k th::S.a s::L))(hs:Ct.Rm 100 s)(hfw:∀r,Ct.RZ 20 (f r))(hlf:∀r,Ct.dJ Q m (f r))(hk:kk+n<=8000000000000000000):
  Calls prog 121 #[↑x,↑cb0,↑cb1,↑cb2] w λe w'=>CP S F m B ((f x).bind k) s L e w':=by
 have h:=VM hm (h.fr (.c r3 .n))
 have h:=Pn (Nat.succ_le_of_lt hm) (h.fr (.c r6 .n))
 refine Ea (args:=[_,_,_,_]) func121 rfl ntmps121 rfl ?_
 refine sq<|rg<|sf (al h kU)<|?_
 rintro _ w ⟨b1,rfl,h⟩
 refine xe<|nx<|sq<|rg<|st (ld Gi rfl (h.B8 a3 rfl))<|st (mv rfl)<|st (nc rfl rfl)<|st (fa Wa rfl)<|sf (so h rfl rfl rfl tL rfl (.s (.r .d)) u6)<|?_
 rintro _ w h
 refine xe<|nx<|sq<|rg<|st (ld wU rfl (h.B8 a4 rfl))<|cl (ca eF rfl) ((DP S pb hd x b m tb kk a f s (h.fr (.c r2 (.c r5 (.c r6 .n)))) hs (by omega)).mono ?_)
 rintro _ w ⟨s2,uz3,vz4,bz5,hq6,rfl,h⟩
 have hw':=(hfw x).head (j:=80) (s:=s) hs
 have hl':=Ct.qD (j:=80) (s:=s) (hfw x) hs (hlf x)
 rw[hq6]at hw' hl'
 refine⟨_,rfl,?_⟩
 refine xe<|nx<|sq<|rg<|st (ld Gi rfl (h.B8 a5 rfl))<|st (ld wU rfl (h.B8 a6 rfl))<|st (ld Yi rfl (h.B8 a7 rfl))<|cl (ca eF rfl) ((hrec tb (kk+1) th k uz3 vz4 bz5 _ _ _ s2 (h.fr (.c r0 (.c r0 (.c r6 (.c r2 (.c r0 .n)))))) (hw'.1.less (by decide)) hw'.2 hl' (by omega)).mono ?_)
 rintro _ w ⟨s7,t8,c9,hq10,rfl,h⟩
 refine⟨_,rfl,?_⟩
 refine sf (so h rfl rfl rfl fZ (eO _) (.r (.r (.r (.r (.r (.r (.r (.r (.r (.r (.r (.r (.r (.r .d)))))))))))))) u2)<|?_
 rintro _ w h
 refine xe<|nx<|rt<|?_
 refine rr (bP results121 rfl (h.b a2) fK)<|?_
 exact fI (Ct.Lk hq6 (hq10)) (h.fr (.c r2 (.c r2 (.c r2 (.c r2 .n))))).drop.drop.drop.drop
theorem Kt{β γ:Type}(S:dN)(pb:Nat)(hd:S.d+1<=349)(ρ:β->Ct.Result)(M:β->As)(X:As)(Q:Nat->β->Prop)(F:γ->Cc->As){m n:Nat}(hm:m<n)(hrec:vC S pb hd ρ M X Q F m)(cb0 cb1 cb2:Nat)(tb kk:Nat)(th:Fv)(k:β->Ct.I γ)(v:Int)(b:Bool)(a o z:Int)(f:Bool->Ct.I β)(x:Bool)(s:Ct.St)(h:SH B w (rb cb0 ([↑pb]) 132::rb cb1 ([↑tb]) 38::rb cb2 [th.val] 93::eQ (nA S pb hd) (tM ρ M) n tb (Ct.I.eA a o z f) kk::bl pb ([S.v,↑v,.bool b]) 134::X::Vz S F n 70 (Ek ρ) (λb=>se [M b,X,Qo S pb]) Q k th::S.a s::L))(hs:Ct.Rm 100 s)(hfw:∀r,Ct.RZ 20 (f r))(hlf:∀r,Ct.dJ Q m (f r))(hk:kk+n<=8000000000000000000):
  Calls prog 123 #[↑x,↑cb0,↑cb1,↑cb2] w λe w'=>CP S F m B ((f x).bind k) s L e w':=by
 have h:=VM hm (h.fr (.c r3 .n))
 have h:=Pn (Nat.succ_le_of_lt hm) (h.fr (.c r6 .n))
 refine Ea (args:=[_,_,_,_]) func123 rfl ntmps123 rfl ?_
 refine sq<|rg<|sf (al h kU)<|?_
 rintro _ w ⟨b1,rfl,h⟩
 refine xe<|nx<|sq<|rg<|st (ld Gi rfl (h.B8 a3 rfl))<|st (mv rfl)<|st (nc rfl rfl)<|st (fa Xp rfl)<|sf (so h rfl rfl rfl AU rfl (.s (.s (.r .d))) u6)<|?_
 rintro _ w h
 refine xe<|nx<|sq<|rg<|st (ld wU rfl (h.B8 a4 rfl))<|cl (ca eF rfl) ((LB S pb hd v x m tb kk a o z f s (h.fr (.c r2 (.c r5 (.c r6 .n)))) hs (by omega)).mono ?_)
 rintro _ w ⟨s2,uz3,vz4,bz5,hq6,rfl,h⟩
 have hw':=(hfw x).head (j:=80) (s:=s) hs
 have hl':=Ct.qD (j:=80) (s:=s) (hfw x) hs (hlf x)
 rw[hq6]at hw' hl'
 refine⟨_,rfl,?_⟩
 refine xe<|nx<|sq<|rg<|st (ld Gi rfl (h.B8 a5 rfl))<|st (ld wU rfl (h.B8 a6 rfl))<|st (ld Yi rfl (h.B8 a7 rfl))<|cl (ca eF rfl) ((hrec tb (kk+1) th k uz3 vz4 bz5 _ _ _ s2 (h.fr (.c r0 (.c r0 (.c r6 (.c r2 (.c r0 .n)))))) (hw'.1.less (by decide)) hw'.2 hl' (by omega)).mono ?_)
 rintro _ w ⟨s7,t8,c9,hq10,rfl,h⟩
 refine⟨_,rfl,?_⟩
 refine sf (so h rfl rfl rfl fZ (eO _) (.r (.r (.r (.r (.r (.r (.r (.r (.r (.r (.r (.r (.r (.r .d)))))))))))))) u2)<|?_
 rintro _ w h
 refine xe<|nx<|rt<|?_
 refine rr (bP results123 rfl (h.b a2) fK)<|?_
 exact fI (Ct.Lk hq6 (hq10)) (h.fr (.c r2 (.c r2 (.c r2 (.c r2 .n))))).drop.drop.drop.drop
theorem OS{β:Type}{Q:Nat->β->Prop}(hQ:∀m n b,m<=n->Q n b->Q m b){m n:Nat}(hm:m<n){c:Int}{f:Int->Ct.I β}(h:Ct.dJ Q n (.load c f)):∀r,Ct.dJ Q m (f r):=λr=>by
 obtain⟨n,rfl⟩:∃i,n=i+1:=⟨n-1,by omega⟩
 exact Ct.dJ.less hQ (by omega) (h r)
theorem GX{β:Type}{Q:Nat->β->Prop}(hQ:∀m n b,m<=n->Q n b->Q m b){m n:Nat}(hm:m<n){c o z:Int}{f:Bool->Ct.I β}(h:Ct.dJ Q n (.eA c o z f)):∀r,Ct.dJ Q m (f r):=λr=>by
 obtain⟨n,rfl⟩:∃i,n=i+1:=⟨n-1,by omega⟩
 exact Ct.dJ.less hQ (by omega) (h r)
theorem Sr{β γ:Type}(S:dN)(pb:Nat)(hd:S.d+1<=349)(ρ:β->Ct.Result)(M:β->As)(X:As)(Q:Nat->β->Prop)(F:γ->Cc->As)(hQ:∀m n b,m<=n->Q n b->Q m b)(n:Nat)(hrec:∀j,j<n->vC S pb hd ρ M X Q F j)(tb kk:Nat)(th:Fv)(k:β->Ct.I γ)(v:Int)(b:Bool)(z:β)(s:Ct.St)(h:SH B w (eQ (nA S pb hd) (tM ρ M) n tb (Ct.I.ret z) kk::bl pb ([S.v,↑v,.bool b]) 134::X::Vz S F (n+1) 70 (Ek ρ) (λb=>se [M b,X,Qo S pb]) Q k th::S.a s::L))(hs:Ct.Rm 75 s)(hfw:∀i,Ct.RZ i (Ct.I.ret z))(hlf:Ct.dJ Q n (Ct.I.ret z))(hk:kk+n<=8000000000000000000):
  Calls prog 92 #[↑pb,↑tb,th.val] w λe w'=>CP S F n B ((Ct.I.ret z).bind k) s L e w':=by
 refine Ea (args:=[_,_,_]) func92 rfl ntmps92 rfl ?_
 refine sq<|rg<|sf (bx h rfl rfl)<|?_
 rintro _ w ⟨b1,rfl,h⟩
 refine sf (bx h rfl rfl)<|?_
 rintro _ w ⟨b2,rfl,h⟩
 refine sf (bx h rfl (lE _))<|?_
 rintro _ w ⟨b3,rfl,h⟩
 refine sf (al h kU)<|?_
 rintro _ w ⟨b4,rfl,h⟩
 refine xe<|nx<|sq<|rg<|st (ld wU rfl (h.c a2 rfl))<|cl (ca eF rfl) ((Nw (nA S pb hd) n tb kk (Ct.I.ret z) (h.fr (.c r4 .n))).mono ?_)
 rintro _ w ⟨rfl,h⟩
 refine⟨_,rfl,?_⟩
 refine st (mv rfl)<|st (xr rfl rfl)<|st (xr rfl rfl)<|sf (al h JE)<|?_
 rintro _ w ⟨b5,rfl,h⟩
 refine sf (so h rfl rfl rfl OD rfl (.r (.r (.r (.r .d)))) u0)<|?_
 rintro _ w h
 refine st (sg rfl)<|xe<|nx<|sq<|sq<|rg<|st (mv rfl)<|st (nt rfl)<|xe<|nx<|cT rfl<|sq<|dZ [1,3,4,6,8] (by kernel_rfl) h (.c r3 (.c r3 .n)) λw h=>tk (λW H=>ld Yi rfl (H.c a0 rfl))<|tk (λW H=>ld wU rfl (H.c a1 rfl))<|cs (ca eF rfl) ((Ln (nA S pb hd) n tb kk z (h.fr (.c r1 .n))).mono ?_)
 rintro _ w ⟨rfl,h⟩
 refine⟨_,rfl,h.hs (.c r3 (.c r3 .n)),?_⟩
 have h:=SH.dU (f:=λz:Int×Bool=>Jp S pb z.1 z.2) (v,b) (h.fr (.c r6 .n))
 have h:=SH.is (l:=[M z,X,Qo S pb]) (h.fr (.c r1 (.c r6 (.c r0 .n))))
 refine A5 rfl rfl ((ZG z (Nat.lt_succ_self n) (by cases n<;>exact hlf) (h.fr (.c r6 (.c r0 (.c r5 .n)))) (hs.less (by decide))).mono ?_)
 rintro _ w ⟨s6,t7,c8,hq9,rfl,h⟩
 refine⟨_,rfl,h.hs (.c r4 (.c r4 .n)),?_⟩
 refine ff (so h rfl rfl rfl fZ (eO _) (.r (.r (.r (.r (.r (.r (.r (.r (.r (.r (.r (.r (.r (.r .d)))))))))))))) u3)<|?_
 rintro _ w h
 refine⟨h.hs (.c r4 (.c r4 .n)),?_⟩
 refine xz<|nx<|rt<|tr<|?_
 refine rr (bP results92 rfl (h.b a3) fK)<|?_
 exact fI (hq9) (h.fr (.c r2 (.c r2 (.c r2 (.c r2 (.c r2 .n)))))).drop.drop.drop.drop.drop
theorem Af{β γ:Type}(S:dN)(pb:Nat)(hd:S.d+1<=349)(ρ:β->Ct.Result)(M:β->As)(X:As)(Q:Nat->β->Prop)(F:γ->Cc->As)(hQ:∀m n b,m<=n->Q n b->Q m b)(n:Nat)(hrec:∀j,j<n->vC S pb hd ρ M X Q F j)(tb kk:Nat)(th:Fv)(k:β->Ct.I γ)(v:Int)(b:Bool)(a:Int)(f:Int->Ct.I β)(s:Ct.St)(h:SH B w (eQ (nA S pb hd) (tM ρ M) n tb (Ct.I.load a f) kk::bl pb ([S.v,↑v,.bool b]) 134::X::Vz S F n 70 (Ek ρ) (λb=>se [M b,X,Qo S pb]) Q k th::S.a s::L))(hs:Ct.Rm 20 s)(hfw:∀i,Ct.RZ i (Ct.I.load a f))(hlf:Ct.dJ Q n (Ct.I.load a f))(hk:kk+n<=8000000000000000000):
  Calls prog 92 #[↑pb,↑tb,th.val] w λe w'=>CP S F n B ((Ct.I.load a f).bind k) s L e w':=by
 refine Ea (args:=[_,_,_]) func92 rfl ntmps92 rfl ?_
 refine sq<|rg<|sf (bx h rfl rfl)<|?_
 rintro _ w ⟨b1,rfl,h⟩
 refine sf (bx h rfl rfl)<|?_
 rintro _ w ⟨b2,rfl,h⟩
 refine sf (bx h rfl (lE _))<|?_
 rintro _ w ⟨b3,rfl,h⟩
 refine sf (al h kU)<|?_
 rintro _ w ⟨b4,rfl,h⟩
 refine xe<|nx<|sq<|rg<|st (ld wU rfl (h.c a2 rfl))<|cl (ca eF rfl) ((Nw (nA S pb hd) n tb kk (Ct.I.load a f) (h.fr (.c r4 .n))).mono ?_)
 rintro _ w ⟨rfl,h⟩
 refine⟨_,rfl,?_⟩
 refine st (mv rfl)<|st (xr rfl rfl)<|st (xr rfl rfl)<|sf (al h JE)<|?_
 rintro _ w ⟨b5,rfl,h⟩
 refine sf (so h rfl rfl rfl OD rfl (.r (.r (.r (.r .d)))) u0)<|?_
 rintro _ w h
 refine st (sg rfl)<|xe<|nx<|sq<|sq<|rg<|st (mv rfl)<|st (nt rfl)<|xe<|nx<|cF rfl<|sk<|nx<|sq<|sq<|rg<|st (fa CZ rfl)<|st (ld jE rfl (h.c a0 rfl))<|st (bi rfl rfl rfl)<|xe<|nx<|cT rfl<|sq<|?_
 have h:=SH.kX (h.fr (.c r5 .n))
 have h:=SH.kX (h.fr (.c r5 .n))
 have h:=SH.kX (h.fr (.c r5 .n))
 refine rg<|st (fa BM rfl)<|st (ld qK rfl (h.c a3 rfl))<|st (mf rfl rfl)<|cl (ca eF rfl) ((jH a (.fn 121 [] [↑b1,↑b2,↑b3]) (h.fr .n)).mono ?_)
 rintro _ w ⟨rfl,h⟩
 refine⟨_,rfl,?_⟩
 refine sf (so h rfl rfl rfl fZ (eO _) (.r (.r (.r (.r (.r (.r (.r (.r (.r (.r (.r (.r (.r (.r .d)))))))))))))) u5)<|?_
 rintro _ w h
 refine xe<|nx<|rt<|tr<|?_
 refine rr (bP results92 rfl (h.b a5) fK)<|?_
 have h:=h.fr (.c r2 (.c r1 (.c r0 (.c r1 (.c r2 (.c r2 (.c r2 .n)))))))
 have h:=Nt (S:=S) (F:=F) (n:=n) (args:=dQ) (k:=(λr=>(f r).bind k)) (v:=(.fn 121 [] [↑b1,↑b2,↑b3])) [rb b1 ([↑pb]) 132,rb b2 ([↑tb]) 38,rb b3 [th.val] 93,eQ (nA S pb hd) (tM ρ M) n tb (Ct.I.load a f) kk,bl pb ([S.v,↑v,.bool b]) 134,X,Vz S F n 70 (Ek ρ) (λb=>se [M b,X,Qo S pb]) Q k th] h λm' hm' B' w' L' s' x' h' hs'=>pR eF (Le S pb hd ρ M X Q F hm' (hrec m' hm') b1 b2 b3 tb kk th k v b a f x' s' h' hs' (hfw 0) (OS hQ hm' hlf) hk)
 have h:=kL (a:=a) h
 exact fI (rfl) (h.fr (.c r1 (.c r1 .n))).drop.drop
theorem Di{β γ:Type}(S:dN)(pb:Nat)(hd:S.d+1<=349)(ρ:β->Ct.Result)(M:β->As)(X:As)(Q:Nat->β->Prop)(F:γ->Cc->As)(hQ:∀m n b,m<=n->Q n b->Q m b)(n:Nat)(hrec:∀j,j<n->vC S pb hd ρ M X Q F j)(tb kk:Nat)(th:Fv)(k:β->Ct.I γ)(v:Int)(b:Bool)(a o z:Int)(f:Bool->Ct.I β)(s:Ct.St)(h:SH B w (eQ (nA S pb hd) (tM ρ M) n tb (Ct.I.eA a o z f) kk::bl pb ([S.v,↑v,.bool b]) 134::X::Vz S F n 70 (Ek ρ) (λb=>se [M b,X,Qo S pb]) Q k th::S.a s::L))(hs:Ct.Rm 20 s)(hfw:∀i,Ct.RZ i (Ct.I.eA a o z f))(hlf:Ct.dJ Q n (Ct.I.eA a o z f))(hk:kk+n<=8000000000000000000):
  Calls prog 92 #[↑pb,↑tb,th.val] w λe w'=>CP S F n B ((Ct.I.eA a o z f).bind k) s L e w':=by
 refine Ea (args:=[_,_,_]) func92 rfl ntmps92 rfl ?_
 refine sq<|rg<|sf (bx h rfl rfl)<|?_
 rintro _ w ⟨b1,rfl,h⟩
 refine sf (bx h rfl rfl)<|?_
 rintro _ w ⟨b2,rfl,h⟩
 refine sf (bx h rfl (lE _))<|?_
 rintro _ w ⟨b3,rfl,h⟩
 refine sf (al h kU)<|?_
 rintro _ w ⟨b4,rfl,h⟩
 refine xe<|nx<|sq<|rg<|st (ld wU rfl (h.c a2 rfl))<|cl (ca eF rfl) ((Nw (nA S pb hd) n tb kk (Ct.I.eA a o z f) (h.fr (.c r4 .n))).mono ?_)
 rintro _ w ⟨rfl,h⟩
 refine⟨_,rfl,?_⟩
 refine st (mv rfl)<|st (xr rfl rfl)<|st (xr rfl rfl)<|sf (al h JE)<|?_
 rintro _ w ⟨b5,rfl,h⟩
 refine sf (so h rfl rfl rfl OD rfl (.r (.r (.r (.r .d)))) u0)<|?_
 rintro _ w h
 refine st (sg rfl)<|xe<|nx<|sq<|sq<|rg<|st (mv rfl)<|st (nt rfl)<|xe<|nx<|cF rfl<|sk<|nx<|sq<|sq<|rg<|st (fa CZ rfl)<|st (ld jE rfl (h.c a0 rfl))<|st (bi rfl rfl rfl)<|xe<|nx<|cF rfl<|sk<|nx<|sq<|?_
 have h:=SH.kX (h.fr (.c r5 .n))
 have h:=SH.kX (h.fr (.c r5 .n))
 have h:=SH.kX (h.fr (.c r5 .n))
 refine rg<|st (fa BM rfl)<|st (ld qK rfl (h.c a3 rfl))<|st (fa TY rfl)<|st (ld gI rfl (h.c a3 rfl))<|st (fa SF rfl)<|st (ld gI rfl (h.c a3 rfl))<|st (mf rfl rfl)<|cl (ca eF rfl) ((iW a o z (.fn 123 [] [↑b1,↑b2,↑b3]) (h.fr .n)).mono ?_)
 rintro _ w ⟨rfl,h⟩
 refine⟨_,rfl,?_⟩
 refine sf (so h rfl rfl rfl fZ (eO _) (.r (.r (.r (.r (.r (.r (.r (.r (.r (.r (.r (.r (.r (.r .d)))))))))))))) u5)<|?_
 rintro _ w h
 refine xe<|nx<|rt<|?_
 refine rr (bP results92 rfl (h.b a5) fK)<|?_
 have h:=h.fr (.c r2 (.c r1 (.c r0 (.c r1 (.c r2 (.c r2 (.c r2 .n)))))))
 have h:=Nt (S:=S) (F:=F) (n:=n) (args:=dV) (k:=(λr=>(f r).bind k)) (v:=(.fn 123 [] [↑b1,↑b2,↑b3])) [rb b1 ([↑pb]) 132,rb b2 ([↑tb]) 38,rb b3 [th.val] 93,eQ (nA S pb hd) (tM ρ M) n tb (Ct.I.eA a o z f) kk,bl pb ([S.v,↑v,.bool b]) 134,X,Vz S F n 70 (Ek ρ) (λb=>se [M b,X,Qo S pb]) Q k th] h λm' hm' B' w' L' s' x' h' hs'=>pR eF (Kt S pb hd ρ M X Q F hm' (hrec m' hm') b1 b2 b3 tb kk th k v b a o z f x' s' h' hs' (hfw 0) (GX hQ hm' hlf) hk)
 have h:=kC (a:=a) (o:=o) (x:=z) h
 exact fI (rfl) (h.fr (.c r1 (.c r1 .n))).drop.drop
theorem Mk{β γ:Type}(S:dN)(pb:Nat)(hd:S.d+1<=349)(ρ:β->Ct.Result)(M:β->As)(X:As)(Q:Nat->β->Prop)(F:γ->Cc->As)(hQ:∀m n b,m<=n->Q n b->Q m b)(n:Nat):vC S pb hd ρ M X Q F n:=by
 induction n using Nat.strongRecOn with
 |ind n ih=>
  intro tb kk th k u v b B w L s h hs hfw hlf hk
  have hr:=Yb h
  cases u with
  |ret z=>exact Sr S pb hd ρ M X Q F hQ n ih tb kk th k v b z s h hs hfw hlf hk
  |load a f=>exact Af S pb hd ρ M X Q F hQ n ih tb kk th k v b a f s ((Pn (Nat.le_succ n) (h.fr (.c r3 .n))).fr (.c r1 (.c r1 (.c r1 (.c r0 .n))))) (hs.less (by decide)) hfw hlf hk
  |eA a o z f=>exact Di S pb hd ρ M X Q F hQ n ih tb kk th k v b a o z f s ((Pn (Nat.le_succ n) (h.fr (.c r3 .n))).fr (.c r1 (.c r1 (.c r1 (.c r0 .n))))) (hs.less (by decide)) hfw hlf hk
  |_=>exact hr.elim
theorem Mu{β γ:Type}(S:dN)(pb:Nat)(hd:S.d+1<=349)(ρ:β->Ct.Result)(M:β->As)(X:As)(Q:Nat->β->Prop)(F:γ->Cc->As)(hQ:∀m n b,m<=n->Q n b->Q m b)(n tb kk:Nat)(th:Fv)(k:β->Ct.I γ)(u:Ct.I β)(v:Int)(b:Bool)(s:Ct.St)(h:SH B w (eQ (nA S pb hd) (tM ρ M) n tb u kk::bl pb ([S.v,↑v,.bool b]) 134::X::Vz S F n 70 (Ek ρ) (λb=>se [M b,X,Qo S pb]) Q k th::S.a s::L))(hs:Ct.Rm 20 s)(hu:u.ended=none)(hfw:∀i,Ct.RZ i u)(hlf:Ct.dJ Q n u)(hk:kk+n<=8000000000000000000):
  Calls prog 92 #[↑pb,↑tb,th.val] w λe w'=>CP S F n B (u.bind k) s L e w':=by
 have hr:=Yb h
 cases u with
 |ret z=>cases hu
 |load a f=>exact Af S pb hd ρ M X Q F hQ n (λj _=>Mk S pb hd ρ M X Q F hQ j) tb kk th k v b a f s h hs hfw hlf hk
 |eA a o z f=>exact Di S pb hd ρ M X Q F hQ n (λj _=>Mk S pb hd ρ M X Q F hQ j) tb kk th k v b a o z f s h hs hfw hlf hk
 |_=>exact hr.elim
theorem GF{β γ:Type}(S:dN)(hd:S.d+1<=349)(ρ:β->Ct.Result)(M:β->As)(X Y:As)(Q:Nat->β->Prop)(F:γ->Cc->As)(hQ:∀m n b,m<=n->Q n b->Q m b)(n:Nat)(sv th:Fv)(k:β->Ct.I γ)(t:Ct.I β)(s:Ct.St)(hst:∀(B w:World) (L:List As) (pb:Nat) (hd:S.d+1<=349),SH B w (bl pb ([S.v,.int .i64 0,↑false]) 134::Y::S.a s::L)->jK prog sv [.iface 132 (QQ pb)] w λe w'=>∃tb s1 u1 v1 b1,t.head s=(s1,u1)/\e=.returned (.pointer (some ⟨tb,0,none⟩))/\SH B w' (eQ (nA S pb hd) (tM ρ M) n tb u1 0::bl pb ([S.v,.int .i64 v1,.bool b1]) 134::X::S.a s1::L))(h:SH B w (Y::Vz S F n 70 (Ek ρ) (λb=>se [M b,X]) Q k th::S.a s::L))(hs:Ct.Rm 60 s)(hfw:Ct.RZ 15 t)(hlf:Ct.dJ Q n t)(hne:(t.head s).2.ended=none)(hk:n<=8000000000000000000):
  Calls prog 88 #[S.v,sv.val,th.val] w λe w'=>CP S F n B (t.bind k) s L e w':=by
 refine Ea (args:=[_,_,_]) func88 rfl ntmps88 rfl ?_
 refine sq<|rg<|sf (al h kU)<|?_
 rintro _ w ⟨b1,rfl,h⟩
 refine xe<|nx<|sq<|rg<|st (mv rfl)<|st (bd [S.v,.int .i64 0,↑false] KV rfl (by kernel_rfl))<|sf (bx h rfl rfl)<|?_
 rintro _ w ⟨b2,rfl,h⟩
 refine st (sg rfl)<|xe<|nx<|sq<|rg<|st (mv rfl)<|st (mv rfl)<|st (mv rfl)<|st (mi KB rfl rfl)<|PM rfl rfl ((hst _ _ _ b2 hd (h.fr (.c r0 (.c r1 (.c r2 .n))))).mono ?_)
 rintro _ w ⟨tb4,s3,uz5,vz6,bz7,hq8,rfl,h⟩
 have hw':=hfw.head (j:=45) (s:=s) hs
 have hl':=Ct.qD (j:=45) (s:=s) hfw hs hlf
 have hn':=hne
 rw[hq8]at hw' hl' hn'
 refine⟨_,rfl,?_⟩
 refine st (mv rfl)<|?_
 have h:=WJ (pb:=b2) (h.fr (.c r5 .n))
 refine cl (ca eF rfl) ((Mu S b2 hd ρ M X Q F hQ n tb4 0 th k uz5 vz6 bz7 s3 (h.fr (.c r1 (.c r1 (.c r1 (.c r0 (.c r0 .n)))))) (hw'.1.less (by decide)) hn' hw'.2 hl' (by omega)).mono ?_)
 rintro _ w ⟨s9,t10,c11,hq12,rfl,h⟩
 refine⟨_,rfl,?_⟩
 refine sf (so h rfl rfl rfl fZ (eO _) (.r (.r (.r (.r (.r (.r (.r (.r (.r (.r (.r (.r (.r (.r .d)))))))))))))) u2)<|?_
 rintro _ w h
 refine xe<|nx<|rt<|?_
 refine rr (bP results88 rfl (h.b a2) fK)<|?_
 exact fI (Ct.Lk hq8 (hq12)) (h.fr (.c r2 .n)).drop
theorem Ns{β γ:Type}(S:dN)(pb:Nat)(hd:S.d+1<=349)(ρ:β->Ct.Result)(M:β->As)(X:As)(Q:Nat->β->Prop)(F:γ->Cc->As)(hQ:∀m n b,m<=n->Q n b->Q m b)(n tb kk:Nat)(th:Fv)(k:β->Ct.I γ)(u:Ct.I β)(v:Int)(b:Bool)(s:Ct.St)(h:SH B w (eQ (nA S pb hd) (tM ρ M) n tb u kk::bl pb ([S.v,↑v,.bool b]) 134::X::Vz S F n 70 (Ek ρ) (λb=>se [M b,X,Qo S pb]) Q k th::S.a s::L))(hs:Ct.Rm 20 s)(hu:u.ended=none)(hfw:∀i,Ct.RZ i u)(hlf:Ct.dJ Q n u)(hk:kk+n<=8000000000000000000):
  Calls prog 67 #[.iface 132 ↑pb,↑tb,th.val] w λe w'=>CP S F n B (u.bind k) s L e w':=by
 refine Ea (args:=[_,_,_]) func67 rfl ntmps67 rfl ?_
 refine sq<|rg<|sf (al h kU)<|?_
 rintro _ w ⟨b1,rfl,h⟩
 refine xe<|nx<|sq<|rg<|st (mv rfl)<|st (K9 rfl rfl rfl)<|st (mv rfl)<|st (xr rfl rfl)<|st (xr rfl rfl)<|st (sg rfl)<|st (sg rfl)<|xe<|nx<|sq<|sq<|rg<|st (mv rfl)<|st (nt rfl)<|xe<|nx<|cF rfl<|sk<|nx<|sq<|rg<|st (mv rfl)<|st (mv rfl)<|st (mv rfl)<|cl (ca eF rfl) ((Mu S pb hd ρ M X Q F hQ n tb kk th k u v b s (h.fr (.c r1 (.c r1 (.c r1 (.c r1 (.c r1 .n)))))) hs hu hfw hlf hk).mono ?_)
 rintro _ w ⟨s2,t3,c4,hq5,rfl,h⟩
 refine⟨_,rfl,?_⟩
 refine sf (so h rfl rfl rfl fZ (eO _) (.r (.r (.r (.r (.r (.r (.r (.r (.r (.r (.r (.r (.r (.r .d)))))))))))))) u2)<|?_
 rintro _ w h
 refine xe<|nx<|rt<|?_
 refine rr (bP results67 rfl (h.b a2) fK)<|?_
 exact fI (hq5) (h.fr (.c r2 .n)).drop
end Go.Q9
end
section
namespace Go.Q9
open Go.Proofs.Tryz
open Go.E
theorem LS:KY prog 180=some ([.nilIface,.int .i64 0,↑false],[(0,1),(1,2)]):=by kernel_rfl
theorem LU:(prog.info? 180).map (·.size)=some 3:=by kernel_rfl
theorem LF:zc prog 180=some [.nilIface,.int .i64 0,↑false]:=by kernel_rfl
end Go.Q9
end
section
namespace Go.Q9
open Go.Proofs.Tryz
open Go.RowKit Go.E
open Go.Ct (qN qA qC qG qT qF)
attribute [local irreducible] gB wpS
abbrev Ep:Ct.Result->Cc->As:=tM id Xs
variable{B w:World}{L:List As}
theorem IB(S:dN){n m:Nat}(hm:m<=n)(x:Int)(s:Ct.St)(h:SH B w (S.a s::L))(hs:Ct.Rm 60 s):
  Calls prog 120 #[↑x] w λe w'=>CP S Ep m B ((λm_b=>.ret {ref:=m_b}) x) s L e w':=by
 refine Ea (args:=[_]) func120 rfl ntmps120 rfl ?_
 refine sq<|rg<|sf (al h kU)<|?_
 rintro _ w ⟨b1,rfl,h⟩
 refine xe<|nx<|sq<|rg<|st (mv rfl)<|st (bd [.int .i64 0,↑false,.int .u64 0,.string .empty,.int .i64 0,↑x,.int .i64 0,↑false] Cy rfl (by kernel_rfl))<|cl (ca eF rfl) ((gV ({ref:=x}:Ct.Result) (h.fr .n)).mono ?_)
 rintro _ w ⟨rfl,h⟩
 refine⟨_,rfl,?_⟩
 refine sf (so h rfl rfl rfl fZ (eO _) (.r (.r (.r (.r (.r (.r (.r (.r (.r (.r (.r (.r (.r (.r .d)))))))))))))) u0)<|?_
 rintro _ w h
 refine xe<|nx<|rt<|?_
 refine rr (bP results120 rfl (h.b a0) fK)<|?_
 have h:=kG (S:=S) (n:=m) (ρ:=id) (M:=Xs) ({ref:=x}:Ct.Result) (SH.is (l:=[]) h)
 exact fI (rfl) (h.fr (.c r1 .n)).drop
theorem HV(S:dN)(cb0 cb1:Nat)(t:Ct.bC)(i:Int){n m:Nat}(hm:m<=n)(s:Ct.St)(h:SH B w (rb cb0 ([S.v,↑t.root,↑t.readOnly]) 180::rb cb1 ([↑i]) 43::S.a s::L))(hs:Ct.Rm 60 s):
  Calls prog 118 #[↑cb0,↑cb1] w λe w'=>CP S Ep m B ((λ_=>Ct.mM t i (λm_b=>.ret {ref:=m_b})) ()) s L e w':=by
 refine Ea (args:=[_,_]) func118 rfl ntmps118 rfl ?_
 refine sq<|rg<|sf (al h kU)<|?_
 rintro _ w ⟨b1,rfl,h⟩
 refine xe<|nx<|sq<|rg<|st (gJ rfl (dK (h.rb a1)) PE)<|st (ld gI rfl (h.B8 a2 rfl))<|?_
 have h:=h.fr .n
 have h:=Me (j:=60) (S:=S) (F:=Ep) (n:=m) (args:=dQ) (k:=(λm_b=>.ret {ref:=m_b})) (v:=(.fn 120 [] [])) [] h λm' hm' B' w' L' s' x' h' hs'=>pR eF (IB S (Nat.le_of_lt hm') x' s' h' (hs'.less (by decide)))
 refine cl (ca eF rfl) ((jZ S Ep t i (.fn 120 [] []) (λm_b=>.ret {ref:=m_b}) m s (h.fr (.c r0 (.c r3 .n))) (hs.less (by decide))).mono ?_)
 rintro _ w ⟨s2,t3,c4,hq5,rfl,h⟩
 refine⟨_,rfl,?_⟩
 refine sf (so h rfl rfl rfl fZ (eO _) (.r (.r (.r (.r (.r (.r (.r (.r (.r (.r (.r (.r (.r (.r .d)))))))))))))) u2)<|?_
 rintro _ w h
 refine xe<|nx<|rt<|?_
 refine rr (bP results118 rfl (h.b a2) fK)<|?_
 exact fI (hq5) (h.fr (.c r2 (.c r2 (.c r2 .n)))).drop.drop.drop
theorem Vw(S:dN)(N:Nat)(t:Ct.bC)(i:Int)(s:Ct.St)(h:SH B w (S.a s::L))(hs:Ct.Rm 60 s):
  Calls prog 87 #[S.v,.agg [↑t.root,↑t.readOnly].toArray,↑i] w λe w'=>∃tb s' u,(Ct.mM t i (λm=>.ret {ref:=m})).head s=(s',u)/\e=.returned (.pointer (some ⟨tb,0,none⟩))/\SH B w' (eQ S Ep N tb u 0::S.a s'::L):=by
 refine Ea (args:=[_,_,_]) func87 rfl ntmps87 rfl ?_
 refine sq<|rg<|sf (bx h rfl rfl)<|?_
 rintro _ w ⟨b1,rfl,h⟩
 refine sf (bx h rfl rfl)<|?_
 rintro _ w ⟨b2,rfl,h⟩
 refine st (sg rfl)<|xe<|nx<|sq<|rg<|st (mv rfl)<|st (gJ rfl (dK (h.b a1)) sM)<|st (bd [S.v,↑t.root,↑t.readOnly] LS rfl (by kernel_rfl))<|sf (al h LF)<|?_
 rintro _ w ⟨b3,rfl,h⟩
 refine sf (so h rfl rfl rfl LU rfl (.r (.r (.r .d))) u0)<|?_
 rintro _ w h
 refine xe<|nx<|sq<|?_
 have h:=SH.kX (h.fr (.c r0 .n))
 have h:=SH.kX (h.fr (.c r1 .n))
 refine rg<|st (mv rfl)<|st (mf rfl rfl)<|?_
 have h:=h.eT a0
 have h:=h.eT a2
 have h:=h.fr (.c r0 (.c r0 .n))
 have h:=YZ (S:=S) (F:=Ep) (n:=N) (j:=60) (args:=qI) (k:=(λ_=>Ct.mM t i (λm_b=>.ret {ref:=m_b}))) (v:=(.fn 118 [] [↑b3,↑b2])) [rb b3 ([S.v,↑t.root,↑t.readOnly]) 180,rb b2 ([↑i]) 43] h λB' w' L' s' x' h' hs'=>pR eF (HV S b3 b2 t i (bD _) s' h' (hs'.less (by decide)))
 refine cl (ca eF rfl) ((Km S Ep N (.fn 118 [] [↑b3,↑b2]) (λ_=>Ct.mM t i (λm_b=>.ret {ref:=m_b})) s (h.fr (.c r0 (.c r3 .n))) (hs.less (by decide))).mono ?_)
 rintro _ w ⟨tb4,s5,uz6,hq7,rfl,h⟩
 refine⟨_,rfl,?_⟩
 refine st (sg rfl)<|xe<|nx<|rt<|?_
 refine rr (jP results87 rfl)<|⟨tb4,s5,uz6,hq7,rfl,(h.fr (.c r2 (.c r2 (.c r2 .n)))).drop.drop.drop⟩
end Go.Q9
end
section
namespace Go.Ct
variable{α β γ:Type}
structure Place where
 node:Node:={}
 next:Int:=0
structure jG where
 started:Bool:=false
 stack:List Place:=[]
 wait:List bN:=[]
def jG.meet(w:jG)(m:Node):jG:=
 bif m.kind==3 then⟨w.started,⟨m,0⟩::w.stack,w.wait⟩else bif m.kind==5 then⟨w.started,w.stack,w.wait++[⟨m.key,m.value⟩]⟩else bif m.kind==6 then⟨w.started,w.stack,w.wait++m.aF⟩else w
def Place.pos(p:Place):Nat:=Bm.aO p.node.aD p.next
def Place.idx(p:Place):Int:=Bm.at_ p.node.aD (p.pos:Int)
def Place.out(p:Place):Bool:=decide (p.idx<0)||decide ((p.node.aA.length:Int)<=(p.pos:Int))
def Place.branch(p:Place):Int:=p.node.aA.getD p.pos 0
def Place.step(p:Place):Place:=⟨p.node,p.idx+1⟩
def Ey(p:bN):Result:={found:=true,key:=p.key,value:=p.value}
def Bj(t:bC)(st:Bool)(K:jG->I (Result×jG)):List Place->I (Result×jG)
 |[]=>.ret ({},⟨st,[],[]⟩)
 |p::l=>bif p.out then Bj t st K l else .node p.branch λs=>
  bif s.kind==4 then .ret (Ey ⟨s.key,s.value⟩,⟨st,p.step::l,[]⟩)else mM t p.branch λm=>.node m λq=>K (jG.meet ⟨st,p.step::l,[]⟩ q)
def Fq(t:bC)(K:jG->I (Result×jG))(w:jG):I (Result×jG):=match w.wait with
 |p::ps=>.ret (Ey p,⟨w.started,w.stack,ps⟩)
 |[]=>Bj t w.started K w.stack
def iN(t:bC):Nat->jG->I (Result×jG)
 |0,w=>Fq t (λw=>.ret ({},w)) w
 |n+1,w=>Fq t (iN t n) w
def qV(t:bC)(n:Nat)(w:jG)(i:Int):I (Result×jG):=mM t i λm=>.node m λq=>iN t n (w.meet q)
def xW(t:bC)(n:Nat)(w:jG):I (Result×jG):=
 bif !t.readOnly then .ret ({err:=7},w)else bif w.started then iN t n w else .load t.root λr=>qV t n ⟨true,w.stack,w.wait⟩ r
def tU(t:bC)(n:Nat):Nat->Int->jG->I Result
 |0,_,_=>.ret {}
 |c+1,k,w=>(xW t n w).bind λz=>bif !z.1.found then .ret {count:=k}else tU t n c (k+1) z.2
theorem Hp{c:Bool}{a b:I α}{f:α->I β}:(bif c then a else b).bind f=bif c then a.bind f else b.bind f:=by cases c<;>rfl
theorem HM(t:bC)(v s:Int)(k:Int->I α)(f:α->I β):(iD t v s k).bind f=iD t v s λm=>(k m).bind f:=by
 unfold iD;simp only[I.bind,Hp]
theorem Zk(t:bC)(k:Int->I α)(f:α->I β):(Zi t k).bind f=Zi t λm=>(k m).bind f:=by
 unfold Zi;simp only[I.bind,Hp,HM]
theorem Zh(t:bC)(i:Int)(k:Int->I α)(f:α->I β):(mM t i k).bind f=mM t i λm=>(k m).bind f:=by
 unfold mM qB kY mK Dq;simp only[I.bind,Hp,Zk]
theorem Zd(t:bC)(i:Int)(k:Int->I α)(s:St):(mM t i k).head s=(s,.load (s.node i).main (qB t i · k)):=rfl
end Go.Ct
namespace Go.Ct
variable{α β γ:Type}
theorem Ht{r:Int}{k:Node->I α}{j:Nat}(h:∀n,RZ j (k n)):RZ j (.node r k):=h
theorem Dj{a:α}{j:Nat}:RZ j (.ret a):=trivial
theorem MX{c:Int}{k:Int->I α}{j:Nat}(h:∀v,RZ 20 (k v)):RZ j (.load c k):=h
theorem Tf{t:bC}{st:Bool}{K:jG->I (Result×jG)}(hK:∀w,RZ 18 (K w)):∀l,RZ 18 (Bj t st K l)
 |[]=>Dj
 |p::l=>RZ.bif (Tf hK l) (Ht λs=>RZ.bif Dj (Ka λm=>Ht λq=>hK _))
theorem Xf{t:bC}{K:jG->I (Result×jG)}(hK:∀w,RZ 18 (K w))(w:jG):RZ 18 (Fq t K w):=by
 unfold Fq
 split
 ·trivial
 ·exact Tf hK _
theorem Ax{t:bC}:∀(n:Nat) (w:jG),RZ 18 (iN t n w)
 |0,w=>Xf (λ_=>Dj) w
 |n+1,w=>Xf (Ax n) w
theorem HZ{t:bC}{n:Nat}{w:jG}{i:Int}{j:Nat}:RZ j (qV t n w i):=Ka λm=>Ht λq=>Ax n _
theorem Tl{t:bC}{n:Nat}{w:jG}:RZ 18 (xW t n w):=RZ.bif Dj (RZ.bif (Ax n w) (MX λ_=>HZ))
structure tF(n:Nat)(it:jG):Prop where
 fit:∀p∈it.stack,p.node.Fit 100000000001
 deep:it.stack.length+n<=1000000000
 wait:it.wait.length<=200000000003
theorem tF.less{m n:Nat}{it:jG}(h:tF n it)(hm:m<=n):tF m it:=⟨h.fit,by have:=h.deep;omega,h.wait⟩
theorem tF.meet{n:Nat}{sd:Bool}{l:List Place}{q:Node}(h:tF (n+1) ⟨sd,l,[]⟩)(hq:q.Fit 100000000001):tF n (jG.meet ⟨sd,l,[]⟩ q):=by
 have hp:=hq.1.2.1
 have hd:=h.deep
 unfold jG.meet
 cases h3:(q.kind==3)with
 |true=>
  refine⟨λp hp=>?_,?_,by simp⟩
  ·rcases List.mem_cons.1 hp with rfl|hp
   ·exact hq
   ·exact h.fit p hp
  ·show (_::l).length+n<=_;rw[Qb];dsimp only at hd;omega
 |false=>
  cases h5:(q.kind==5)with
  |true=>exact⟨h.fit,by show l.length+n<=_;dsimp only at hd;omega,by simp⟩
  |false=>
   cases h6:(q.kind==6)with
   |true=>exact⟨h.fit,by show l.length+n<=_;dsimp only at hd;omega,by show ([]++q.aF).length<=_;rw[Xb];omega⟩
   |false=>exact⟨h.fit,by show l.length+n<=_;dsimp only at hd;omega,by simp⟩
theorem JY(t:bC)(N:Nat)(w:jG)(x:Int)(s:St):(qV t N w x).head s=((mM t x λm=>(.ret {ref:=m}:I Result)).bind λr=>.node r.ref λq=>iN t N (w.meet q)).head s:=by
 rw[Zh];rfl
structure oB(n:Nat)(it:jG):Prop where
 ok:tF n it
 new:it.started=false->it.wait=[]
theorem oB.less{m n:Nat}{it:jG}(h:oB n it)(hm:m<=n):oB m it:=⟨h.ok.less hm,h.new⟩
def QI(n:Nat)(z:Result×jG):Prop:=oB n z.2
theorem TU:∀m n z,m<=n->QI n z->QI m z:=λ_ _ _ hm h=>h.less hm
theorem Ik{t:bC}{K:jG->I (Result×jG)}{n:Nat}(hK:∀m,m<n->∀w,w.started=true->tF m w->dJ QI m (K w)):∀l,tF n ⟨true,l,[]⟩->dJ QI n (Bj t true K l)
 |[],h=>oQ ⟨⟨λp hp=>(by cases hp),by have:=h.deep;show 0+n<=_;omega,Xe _⟩,λh=>by cases h⟩
 |p::l,h=>kD (λ_=>Ik hK l ⟨λq hq=>h.fit q (List.mem_cons_of_mem _ hq),by have:=h.deep;simp only[Qb]at this;show l.length+n<=_;omega,h.wait⟩) λ_=>
  have hp:tF n ⟨true,p.step::l,[]⟩:=⟨λq hq=>by
   rcases List.mem_cons.1 hq with rfl|hq
   ·exact h.fit p (List.mem_cons_self ..)
   ·exact h.fit q (List.mem_cons_of_mem _ hq),h.deep,h.wait⟩
  fD λs _=>kD (λ_=>oQ ⟨hp,λh=>by cases h⟩) λ_=>Jq λm hm v=>fD λq hq=>hK m hm _ (by unfold jG.meet;cases (q.kind==3)<;>cases (q.kind==5)<;>cases (q.kind==6)<;>rfl) ((hp.less hm).meet hq)
theorem Jv{t:bC}{K:jG->I (Result×jG)}{n:Nat}(hK:∀m,m<n->∀w,w.started=true->tF m w->dJ QI m (K w)):∀(w:jG),w.started=true->tF n w->dJ QI n (Fq t K w)
 |⟨st,l,[]⟩,hs,h=>by
  obtain rfl:st=true:=hs
  exact Ik hK l h
 |⟨st,l,p::ps⟩,hs,h=>oQ ⟨⟨h.fit,h.deep,by have:=h.wait;simp only[Qb]at this;show ps.length<=_;omega⟩,λh'=>by rw[show st=true from hs]at h';cases h'⟩
theorem vX{t:bC}:∀(N n:Nat) (w:jG),w.started=true->tF n w->dJ QI n (iN t N w)
 |0,n,w,hs,h=>Jv (λm _ w hs h=>oQ ⟨h,λh'=>by dsimp only at h';rw[hs]at h';cases h'⟩) w hs h
 |N+1,n,w,hs,h=>Jv (λm _ w hs h=>vX N m w hs h) w hs h
theorem Yx{t:bC}{N n:Nat}{w:jG}(h:oB n w):dJ QI n (xW t N w):=
 kD (λ_=>oQ h) λ_=>kD (λhs=>vX N n w hs h.ok) λhs=>kN λm hm r=>Jq λj hj v=>fD λq hq=>by
  have hw:=h.new hs
  obtain⟨st,l,wt⟩:=w
  obtain rfl:wt=[]:=hw
  refine vX N j _ (by unfold jG.meet;cases (q.kind==3)<;>cases (q.kind==5)<;>cases (q.kind==6)<;>rfl) (tF.meet ⟨h.ok.fit,?_,h.ok.wait⟩ hq)
  have:=h.ok.deep
  dsimp only at this ⊢
  omega
end Go.Ct
end
section
namespace Go.Q9
open Go.Proofs.Tryz
open Go.E
theorem ZR:KY prog 177=some ([.int .i64 0,.int .i64 0,.int .i64 0,.int .u64 0,.slice none 0 0,.int .u64 0,.string .empty,.int .u64 0,.slice none 0 0,.int .i64 0,.int .i64 0,.int .i64 0,.int .i64 0,.int .i64 0,.int .i64 0],[(0,14),(14,1)]):=by kernel_rfl
theorem f9:KY prog 83=some ([.int .i64 0,↑false,↑false,.slice none 0 0,.slice none 0 0],[(0,2),(2,1),(3,1),(4,1)]):=by kernel_rfl
theorem nR:fo prog 177 0=some 0:=by kernel_rfl
theorem Eb:fo prog 177 1=some 14:=by kernel_rfl
theorem UX:fo prog 45 5=some 5:=by kernel_rfl
theorem Hm:fo prog 83 0=some 0:=by kernel_rfl
theorem Rx:fo prog 83 1=some 2:=by kernel_rfl
theorem nB:fo prog 83 2=some 3:=by kernel_rfl
theorem pN:fo prog 83 3=some 4:=by kernel_rfl
theorem NX:fv prog 118 8=some (8,1,false):=by kernel_rfl
theorem yA:tA prog 36=true:=by kernel_rfl
theorem uD:tA prog 81=true:=by kernel_rfl
theorem zY:prog.underlying 81=some (.slice 177):=by kernel_rfl
theorem KC:mR prog 177=some (.agg [.int .i64 0,.int .i64 0,.int .i64 0,.int .u64 0,.slice none 0 0,.int .u64 0,.string .empty,.int .u64 0,.slice none 0 0,.int .i64 0,.int .i64 0,.int .i64 0,.int .i64 0,.int .i64 0,.int .i64 0].toArray,15,160):=by kernel_rfl
theorem Oo:(prog.info? 177).map (·.size)=some 15:=by kernel_rfl
theorem WD:(prog.info? 81).map (·.size)=some 1:=by kernel_rfl
end Go.Q9
end
