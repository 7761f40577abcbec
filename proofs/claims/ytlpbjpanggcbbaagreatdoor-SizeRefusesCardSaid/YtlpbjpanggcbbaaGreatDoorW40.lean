/- Parts of a proof: Sz, EvA, Azl, Zr. -/
import Derived.Test.YtlpbjpanggcbbaaGreatDoorW39
set_option linter.unusedVariables false
set_option linter.unusedSimpArgs false
set_option maxRecDepth 100000
set_option maxHeartbeats 4000000
section
namespace Go.Q9
open Go.Proofs.Tryz
open Go.RowKit Go.E
open Go.Ct (qN qA qC qG qT qF)
attribute [local irreducible] gB wpS
theorem GY{α:Type}{u:Ct.I α}(h:u.ended.isSome=true):∃z,u=.ret z:=by cases u<;>first|exact⟨_,rfl⟩|cases h
theorem JW{α:Type}{u:Ct.I α}(h:u.ended.isSome=false):u.ended=none:=by cases u<;>first|rfl|cases h
instance {S:dN}{pb:Nat}{hd:S.d+1<=349}[hT:Gc S]:Gc (nA S pb hd):=⟨λ{w O R} hp=>by
 obtain⟨Os,Rs,h1,_⟩:=hp
 exact hT.H3 (h1 1 _ rfl)⟩
variable{B w:World}{L:List As}
theorem e9(S:dN)[Gc S](pb:Nat)(hd:S.d+1<=349)(hd2:S.d+2<=349)(ib:Nat)(t:Ct.bC)(N n:Nat)(hn:n<=N)(hb:n<=8000000000000000000)(it:Ct.jG)(v:Int)(b:Bool)(s:Ct.St)(h:SH B w (vV ib t it::Jp S pb v b::S.a s::L))(hs:Ct.Rm 60 s)(hok:Ct.oB n it):
  Calls prog 10 #[↑ib,.iface 132 (QQ pb)] w λe w'=>∃tb s' u v' b',(Ct.xW t (N+1) it).head s=(s',u)/\e=.returned (.pointer (some ⟨tb,0,none⟩))/\SH B w' (eQ (nA S pb hd) (Jh ib t) n tb u 0::Jp S pb v' b'::S.a s'::L):=by
 refine(JG (nA S pb hd) hd2 ib t N n hn hb it s ((Mi (hd:=hd) (Mz (h.fr (.c r1 (.c r1 .n))))).fr (.c r1 .n)) hs hok).mono ?_
 rintro e w' ⟨tb,s',u,hq,rfl,h⟩
 obtain⟨v',b',h⟩:=Oq (h.fr (.c r1 .n))
 exact⟨tb,s',u,v',b',hq,rfl,h.fr (.c r2 .n)⟩
def Pz(S:dN)(pb cb ib:Nat)(t:Ct.bC)(N n:Nat):Prop:=∀(c k:Nat) (it:Ct.jG) (v:Int) (b:Bool) (B w:World) (L:List As) (s:Ct.St),SH B w (bl cb ([.iface 132 ↑pb,↑ib,↑(k:Int)]) 106::vV ib t it::Jp S pb v b::S.a s::L)->Ct.Rm 60 s->Ct.oB n it->Ct.xK n+it.mu<=c->k+c<=9000000000000000000->
 Calls prog 46 #[↑cb] w λe w'=>CP S Ep n B (Ct.tU t (N+1) (c+1) (k:Int) it) s L e w'
theorem Ug(S:dN)(pb cb ib:Nat)(t:Ct.bC)(N n m:Nat)(hm:m<n)(hrec:Pz S pb cb ib t N m)(c k:Nat)(z:Ct.Result×Ct.jG)(s:Ct.St)(h:SH B w (se [vV ib t z.2,bl cb ([.iface 132 ↑pb,↑ib,↑(k:Int)]) 106,Qo S pb]::S.a s::L))(hs:Ct.Rm 70 s)(hok:Ct.oB m z.2)(hc:Ct.xK n<=c)(hkc:k+c<=9000000000000000000):
  Calls prog 68 #[↑cb,.agg (Mf (Prod.fst z)).toArray] w λe w'=>CP S Ep m B (Ct.SQ t (N+1) c (k:Int) z) s L e w':=by
 have h:=SH.se (l:=[_,_,_]) h
 obtain⟨⟨v,b⟩,h⟩:=SH.ex (f:=λz:Int×Bool=>Jp S pb z.1 z.2) (h.fr (.c r2 .n))
 dsimp only at h
 refine Ea (args:=[_,_]) func68 rfl ntmps68 rfl ?_
 refine sq<|rg<|sf (bx h rfl rfl)<|?_
 rintro _ w ⟨b1,rfl,h⟩
 refine sf (al h kU)<|?_
 rintro _ w ⟨b2,rfl,h⟩
 refine xe<|nx<|sq<|sq<|rg<|st (fa TT rfl)<|st (ld xN rfl (h.c a1 rfl))<|st (nt rfl)<|xe<|nx<|?_
 rcases bI (!(Prod.fst z).found)with hd3|hd3
 have hd4:(Prod.fst z).found=false:=(lC _).mp hd3
 refine ct rfl hd3<|sq<|rg<|st (mv rfl)<|st (nc rfl rfl)<|st (fa vI rfl)<|st (ld jE rfl (h.c a4 rfl))<|st (bd [.int .i64 0,↑false,.int .u64 0,.string .empty,↑(k:Int),.int .i64 0,.int .i64 0,↑false] Cy rfl (by kernel_rfl))<|cl (ca eF rfl) ((gV ({count:=(k:Int)}:Ct.Result) (h.fr .n)).mono ?_)
 rintro _ w ⟨rfl,h⟩
 refine⟨_,rfl,?_⟩
 refine sf (so h rfl rfl rfl fZ (eO _) (.r (.r (.r (.r (.r (.r (.r (.r (.r (.r (.r (.r (.r (.r .d)))))))))))))) u0)<|?_
 rintro _ w h
 refine xe<|nx<|rt<|tr<|?_
 refine rr (bP results68 rfl (h.b a0) fK)<|?_
 have h:=kG (S:=S) (n:=m) (ρ:=id) (M:=Xs) ({count:=(k:Int)}:Ct.Result) (SH.is (l:=[]) h)
 exact fI (qT hd3 rfl) (h.fr (.c r1 (.c r1 (.c r1 (.c r1 (.c r1 .n)))))).drop.drop.drop.drop.drop
 obtain⟨cz,rfl⟩:∃d,c=d+1:=⟨c-1,by have:=Ct.fuel_lt hm;omega⟩
 have hd5:(Prod.fst z).found=true:=(Pe _).mp hd3
 refine cf rfl hd3<|sk<|nx<|sq<|rg<|st (mv rfl)<|st (nc rfl rfl)<|st (fa vI rfl)<|st (ld jE rfl (h.c a4 rfl))<|st (bw rfl rfl (gN (c:=((k+1:Nat):Int)) (by omega) (by omega) (by omega)))<|st (nc rfl rfl)<|st (fa vI rfl)<|sf (so h rfl rfl rfl Bf rfl (.s (.s (.r .d))) u4)<|?_
 rintro _ w h
 refine xe<|nx<|sq<|rg<|st (mv rfl)<|cl (ca eF rfl) ((hrec cz (k+1) z.2 v b _ _ _ s (h.fr (.c r4 (.c r3 (.c r2 (.c r2 .n))))) (hs.less (by decide)) hok (by have:=Ct.ZJ hok;have:=Ct.fuel_lt hm;omega) (by omega)).mono ?_)
 rintro _ w ⟨s6,t7,c8,hq9,rfl,h⟩
 refine⟨_,rfl,?_⟩
 refine sf (so h rfl rfl rfl fZ (eO _) (.r (.r (.r (.r (.r (.r (.r (.r (.r (.r (.r (.r (.r (.r .d)))))))))))))) u2)<|?_
 rintro _ w h
 refine xe<|nx<|rt<|?_
 refine rr (bP results68 rfl (h.b a2) fK)<|?_
 exact fI (qF hd3 (hq9)) (h.fr (.c r2 (.c r2 .n))).drop.drop
theorem GM(S:dN)[Gc S](hd:S.d+1<=349)(hd2:S.d+2<=349)(pb cb ib:Nat)(t:Ct.bC)(N:Nat)(n:Nat)(hn:n<=N)(hb:n<=1000000)(hrec:∀j,j<n->Pz S pb cb ib t N j)(c0 k0:Nat)(it0:Ct.jG)(v0:Int)(b0:Bool)(s:Ct.St)(h:SH B w (bl cb ([.iface 132 ↑pb,↑ib,↑(k0:Int)]) 106::vV ib t it0::bl pb ([S.v,↑v0,↑b0]) 134::S.a s::L))(hs:Ct.Rm 60 s)(hok0:Ct.oB n it0)(hc0:Ct.xK n+it0.mu<=c0)(hkc0:k0+c0<=9000000000000000000):
  Calls prog 46 #[↑cb] w λe w'=>CP S Ep n B (Ct.tU t (N+1) (c0+1) (k0:Int) it0) s L e w':=by
 refine Ea (args:=[_]) func46 rfl ntmps46 rfl ?_
 refine sq<|rg<|sf (al h kU)<|?_
 rintro _ w ⟨b1,rfl,h⟩
 refine xe<|nx<|bk<|?_
 refine lp (α:=Ct.jG×Nat×Nat×Int×Bool) (λρ=>(.c 0 ↑cb (.c 2 ↑b1 .n))) (λρ w=>SH B w (bl cb ([.iface 132 ↑pb,↑ib,.int .i64 (ρ.2.1:Int)]) 106::vV ib t ρ.1::bl pb ([S.v,.int .i64 ρ.2.2.2.1,.bool ρ.2.2.2.2]) 134::bl b1 ([.int .i64 0,.int .i64 0,.int .i64 0,.int .i64 0,.nilFunc,.nilFunc,.int .i64 0,↑false,.int .u64 0,.string .empty,.int .i64 0,.int .i64 0,.int .i64 0,↑false]) 92::S.a s::L)/\((Ct.tU t (N+1) (c0+1) (k0:Int) it0).head s=(Ct.tU t (N+1) (ρ.2.2.1+1) (ρ.2.1:Int) ρ.1).head s)/\(Ct.oB n ρ.1)/\(Ct.xK n+Ct.jG.mu ρ.1<=ρ.2.2.1)/\(ρ.2.1+ρ.2.2.1<=9000000000000000000)) (λρ=>Ct.jG.mu ρ.1) (it0,k0,c0,v0,b0) ⟨rfl,rfl,trivial⟩ ⟨(h.fr (.c r1 (.c r1 (.c r1 (.c r0 (.c r0 .n)))))),rfl,hok0,hc0,hkc0⟩ ?_
 rintro⟨it,k,c,v,b⟩ w ⟨h,hT,hok,hc,hkc⟩
 dsimp only at *
 refine bk<|sq<|dZ [1,3,5,7,9,11,13,15,16,18] (by kernel_rfl) h (.c r0 .n) λw h=>tk (λW H=>mv rfl)<|tk (λW H=>nc rfl rfl)<|tk (λW H=>fa LJ rfl)<|tk (λW H=>ld yA rfl (H.c a0 rfl))<|tk (λW H=>mv rfl)<|tk (λW H=>nc rfl rfl)<|tk (λW H=>fa Wx rfl)<|tk (λW H=>ld oG rfl (H.c a0 rfl))<|cs (ca eF rfl) ((e9 S pb hd hd2 ib t N n hn (by omega) it v b s (h.fr (.c r1 (.c r1 (.c r2 .n)))) hs hok).mono ?_)
 rintro _ w ⟨tb,s2,uz3,vz4,bz5,hq6,rfl,h⟩
 have hw':=(Ct.Tl (t:=t) (n:=N+1) (w:=it)).head (j:=42) (s:=s) hs
 have hl':=Ct.qD (j:=42) (s:=s) (Ct.Tl (t:=t) (n:=N+1) (w:=it)) hs (Ct.Yx hok)
 rw[hq6]at hw' hl'
 refine⟨_,rfl,h.hs (.c r3 .n),?_⟩
 refine ef (sg rfl) (h.hs (.c r3 .n))<|xz<|nx<|sq<|sq<|rg<|st (mv rfl)<|cl (ca eF rfl) ((DO (nA S pb hd) n tb 0 uz3 (h.fr (.c r0 .n))).mono ?_)
 rintro _ w ⟨rfl,h⟩
 refine⟨_,rfl,?_⟩
 refine st (nt rfl)<|xe<|nx<|?_
 rcases bI (!uz3.ended.isSome)with hd7|hd7
 have hd8:uz3.ended.isSome=false:=(lC _).mp hd7
 have hu:=JW hd8
 refine ct rfl hd7<|sq<|rg<|st (mv rfl)<|st (nc rfl rfl)<|st (fa Wx rfl)<|st (ld oG rfl (h.c a3 rfl))<|st (mv rfl)<|st (mv rfl)<|st (mf rfl rfl)<|?_
 have h:=d9 (S:=S) (F:=Ep) (n:=n) (j:=70) (args:=Ek Prod.fst) (Q:=Ct.QI) (M:=λz=>se [vV ib t z.2,bl cb ([.iface 132 ↑pb,↑ib,↑(k:Int)]) 106,Qo S pb]) (k:=Ct.SQ t (N+1) c (k:Int)) (v:=(.fn 68 [↑cb] [])) [] h λm' hm' B' w' L' s' x' hx' h' hs'=>pR eF (Ug S pb cb ib t N n m' hm' (hrec m' hm') c k x' s' h' hs' hx' (by omega) hkc)
 refine cl (ca eF rfl) ((Ns S pb hd Prod.fst (λz=>vV ib t z.2) (bl cb ([.iface 132 ↑pb,↑ib,↑(k:Int)]) 106) Ct.QI Ep Ct.TU n tb 0 (.fn 68 [↑cb] []) (Ct.SQ t (N+1) c (k:Int)) uz3 vz4 bz5 s2 (h.fr (.c r1 (.c r1 (.c r2 (.c r0 (.c r0 .n)))))) (hw'.1.less (by decide)) hu hw'.2 hl' (by omega)).mono ?_)
 rintro _ w ⟨s9,t10,c11,hq12,rfl,h⟩
 refine⟨_,rfl,?_⟩
 refine sf (so h rfl rfl rfl fZ (eO _) (.r (.r (.r (.r (.r (.r (.r (.r (.r (.r (.r (.r (.r (.r .d)))))))))))))) u2)<|?_
 rintro _ w h
 refine xe<|nx<|rt<|tr<|bt<|tr<|bt<|?_
 refine rr (bP results46 rfl (h.b a2) fK)<|?_
 exact fI (hT.trans (Ct.Lk hq6 (hq12))) (h.fr (.c r2 .n)).drop
 have hd13:uz3.ended.isSome=true:=(Pe _).mp hd7
 obtain⟨z,hz⟩:=GY hd13
 rw[hz]at h hq6 hl' hw'
 have hok2:Ct.oB n z.2:=by have:=hl';cases n<;>exact this
 refine cf rfl hd7<|sk<|nx<|sq<|sq<|rg<|st (mv rfl)<|cl (ca eF rfl) ((Ln (nA S pb hd) n tb 0 z (h.fr (.c r0 .n))).mono ?_)
 rintro _ w ⟨rfl,h⟩
 refine⟨_,rfl,?_⟩
 refine st (fd TC rfl rfl)<|st (nt rfl)<|xe<|nx<|?_
 rcases bI (!(Prod.fst z).found)with hd14|hd14
 have hd15:(Prod.fst z).found=false:=(lC _).mp hd14
 refine ct rfl hd14<|sq<|rg<|st (mv rfl)<|st (nc rfl rfl)<|st (fa vI rfl)<|st (ld jE rfl (h.c a3 rfl))<|st (bd [.int .i64 0,↑false,.int .u64 0,.string .empty,↑(k:Int),.int .i64 0,.int .i64 0,↑false] Cy rfl (by kernel_rfl))<|cl (ca eF rfl) ((gV ({count:=(k:Int)}:Ct.Result) (h.fr .n)).mono ?_)
 rintro _ w ⟨rfl,h⟩
 refine⟨_,rfl,?_⟩
 refine sf (so h rfl rfl rfl fZ (eO _) (.r (.r (.r (.r (.r (.r (.r (.r (.r (.r (.r (.r (.r (.r .d)))))))))))))) u4)<|?_
 rintro _ w h
 refine xe<|nx<|rt<|tr<|bt<|tr<|bt<|?_
 refine rr (bP results46 rfl (h.b a4) fK)<|?_
 have h:=kG (S:=S) (n:=n) (ρ:=id) (M:=Xs) ({count:=(k:Int)}:Ct.Result) (SH.is (l:=[]) h)
 exact fI (hT.trans (Ct.Lk hq6 (qT hd14 rfl))) (h.fr (.c r1 (.c r1 (.c r2 (.c r2 .n))))).drop.drop.drop.drop
 have hd16:(Prod.fst z).found=true:=(Pe _).mp hd14
 refine cf rfl hd14<|sk<|nx<|rg<|st (mv rfl)<|st (nc rfl rfl)<|st (fa vI rfl)<|st (ld jE rfl (h.c a3 rfl))<|st (bw rfl rfl (gN (c:=((k+1:Nat):Int)) (by omega) (by omega) (by omega)))<|st (nc rfl rfl)<|st (fa vI rfl)<|sf (so h rfl rfl rfl Bf rfl (.s (.s (.r .d))) u3)<|?_
 rintro _ w h
 refine xe<|bn<|nx<|?_
 have hf:(Prod.fst z).found=true:=by have h9:=hd16;revert h9;cases (Prod.fst z).found<;>simp
 obtain⟨e1,hmu⟩:=Ct.KU hq6 hf
 have hT2:=hT.trans (Ct.Lk (f:=Ct.SQ t (N+1) c (k:Int)) hq6 (qF (show (!z.1.found)=false by rw[hf];rfl) rfl))
 rw[e1]at h hT2
 obtain⟨cz,rfl⟩:∃d,c=d+1:=⟨c-1,by omega⟩
 exact⟨(z.2,(k+1),cz,vz4,bz5),⟨rfl,rfl,trivial⟩,⟨(h.fr (.c r3 (.c r0 (.c r0 (.c r1 (.c r0 .n)))))),hT2,hok2,by(try dsimp only);omega,by(try dsimp only);omega⟩,hmu⟩
theorem IX(S:dN)[Gc S](hd:S.d+1<=349)(hd2:S.d+2<=349)(pb cb ib:Nat)(t:Ct.bC)(N:Nat)(n:Nat):n<=N->n<=1000000->Pz S pb cb ib t N n:=by
 induction n using Nat.strongRecOn with
 |ind n ih=>
  intro hn hb c k it v b B w L s h hs hok hc hkc
  exact GM S hd hd2 pb cb ib t N n hn hb (λj hj=>ih j hj (by omega) (by omega)) c k it v b s h hs hok hc hkc
theorem AG(S:dN)(h:SH B w (L)):
  Calls prog 45 #[S.v] w λe w'=>∃pb,e=.returned (.iface 132 (QQ pb))/\SH B w' (Jp S pb 0 false::L):=by
 refine Ea (args:=[_]) func45 rfl ntmps45 rfl ?_
 refine sq<|rg<|st (sg rfl)<|xe<|nx<|sq<|rg<|st (mv rfl)<|st (bd [S.v,.int .i64 0,↑false] KV rfl (by kernel_rfl))<|sf (bx h rfl rfl)<|?_
 rintro _ w ⟨b1,rfl,h⟩
 refine st (mi KB rfl rfl)<|st (sg rfl)<|xe<|nx<|rt<|?_
 refine rr (jP results45 rfl)<|⟨b1,rfl,h⟩
theorem Xr(S:dN)[Gc S](hd:S.d+1<=349)(hd2:S.d+2<=349)(t:Ct.bC)(N n c:Nat)(hn:n<=N)(hb:n<=1000000)(hc:Ct.xK n<=c)(hc2:0+c<=9000000000000000000)(cb0 cb1:Nat)(s:Ct.St)(h:SH B w (rb cb0 [S.v] 85::rb cb1 (cU t) 35::S.a s::L))(hs:Ct.Rm 60 s):
  Calls prog 44 #[↑cb0,↑cb1] w λe w'=>CP S Ep n B (Ct.tU t (N+1) (c+1) 0 {}) s L e w':=by
 refine Ea (args:=[_,_]) func44 rfl ntmps44 rfl ?_
 refine sq<|rg<|sf (al h kU)<|?_
 rintro _ w ⟨b1,rfl,h⟩
 refine xe<|nx<|sq<|dZ [1,5,2,6,9,10,12] (by kernel_rfl) h (.c r1 (.c r1 .n)) λw h=>tk (λW H=>ld oG rfl (H.B8 a0 rfl))<|tk (λW H=>gJ rfl (dK (H.rb a1)) sM)<|cs (ca eF rfl) ((AG S (h.fr .n)).mono ?_)
 rintro _ w ⟨pb,rfl,h⟩
 refine⟨_,rfl,h.hs (.c r2 (.c r2 .n)),?_⟩
 refine cs (ca eF rfl) ((MC t (h.fr .n)).mono ?_)
 rintro _ w ⟨ib,rfl,h⟩
 refine⟨_,rfl,h.hs (.c r3 (.c r3 .n)),?_⟩
 refine tk (λW H=>bd [.iface 132 ↑pb,↑ib,.int .i64 0] YR rfl (by kernel_rfl))<|ff (bx h rfl rfl)<|?_
 rintro _ w ⟨b2,rfl,h⟩
 refine⟨h.hs (.c r4 (.c r4 .n)),?_⟩
 refine ef (sg rfl) (h.hs (.c r4 (.c r4 .n)))<|xz<|nx<|sq<|rg<|st (mv rfl)<|cl (ca eF rfl) ((IX S hd hd2 pb b2 ib t N n hn hb c 0 {} 0 false _ _ _ s (h.fr (.c r0 (.c r0 (.c r0 (.c r3 .n))))) hs (Ct.DC n (by omega)) (by rw[Ct.XC];omega) hc2).mono ?_)
 rintro _ w ⟨s3,t4,c5,hq6,rfl,h⟩
 refine⟨_,rfl,?_⟩
 refine sf (so h rfl rfl rfl fZ (eO _) (.r (.r (.r (.r (.r (.r (.r (.r (.r (.r (.r (.r (.r (.r .d)))))))))))))) u2)<|?_
 rintro _ w h
 refine xe<|nx<|rt<|?_
 refine rr (bP results44 rfl (h.b a2) fK)<|?_
 exact fI (hq6) (h.fr (.c r2 (.c r2 (.c r2 .n)))).drop.drop.drop
theorem Vn(S:dN)(n:Nat)(s:Ct.St)(h:SH B w (S.a s::L)):
  Calls prog 43 #[] w λe w'=>CP S Ep n B (.ret {err:=7}) s L e w':=by
 refine Ea (args:=[]) func43 rfl ntmps43 rfl ?_
 refine sq<|rg<|sf (al h kU)<|?_
 rintro _ w ⟨b1,rfl,h⟩
 refine xe<|nx<|sq<|rg<|st (bd [.int .i64 7,↑false,.int .u64 0,.string .empty,.int .i64 0,.int .i64 0,.int .i64 0,↑false] Cy rfl (by kernel_rfl))<|cl (ca eF rfl) ((gV ({err:=7}:Ct.Result) (h.fr .n)).mono ?_)
 rintro _ w ⟨rfl,h⟩
 refine⟨_,rfl,?_⟩
 refine sf (so h rfl rfl rfl fZ (eO _) (.r (.r (.r (.r (.r (.r (.r (.r (.r (.r (.r (.r (.r (.r .d)))))))))))))) u0)<|?_
 rintro _ w h
 refine xe<|nx<|rt<|?_
 refine rr (bP results43 rfl (h.b a0) fK)<|?_
 have h:=kG (S:=S) (n:=n) (ρ:=id) (M:=Xs) ({err:=7}:Ct.Result) (SH.is (l:=[]) h)
 exact fI (rfl) (h.fr (.c r1 .n)).drop
theorem FK(S:dN)[Gc S](hd:S.d+1<=349)(hd2:S.d+2<=349)(t:Ct.bC)(N n c:Nat)(hn:n<=N)(hb:n<=1000000)(hc:Ct.xK n<=c)(hc2:0+c<=9000000000000000000)(s:Ct.St)(h:SH B w (S.a s::L))(hs:Ct.Rm 60 s)(hro:t.readOnly=true):
  Calls prog 16 #[S.v,.agg [↑t.root,↑t.readOnly].toArray] w λe w'=>∃tb s' u,(Ct.Iu t (N+1) (c+1)).head s=(s',u)/\e=.returned (.pointer (some ⟨tb,0,none⟩))/\SH B w' (eQ S Ep n tb u 0::S.a s'::L):=by
 refine Ea (args:=[_,_]) func16 rfl ntmps16 rfl ?_
 refine sq<|rg<|sf (bx h rfl rfl)<|?_
 rintro _ w ⟨b1,rfl,h⟩
 refine sf (bx h rfl rfl)<|?_
 rintro _ w ⟨b2,rfl,h⟩
 refine st (sg rfl)<|xe<|nx<|sq<|sq<|rg<|st (fa tS rfl)<|st (ld xN rfl (h.c a0 rfl))<|st (nt rfl)<|xe<|nx<|cf rfl (sZ hro)<|sk<|nx<|sq<|?_
 have h:=SH.kX (h.fr (.c r1 .n))
 have h:=SH.kX (h.fr (.c r1 .n))
 refine rg<|st (ld oG rfl (h.B8 a1 rfl))<|st (mf rfl rfl)<|?_
 have h:=h.fr (.c r1 (.c r0 .n))
 have h:=YZ (S:=S) (F:=Ep) (n:=n) (j:=60) (args:=qI) (k:=λ_:Unit=>Ct.tU t (N+1) (c+1) 0 {}) (v:=(.fn 44 [] [↑b1,↑b2])) [rb b1 [S.v] 85,rb b2 ([↑t.root,↑t.readOnly]) 35] h λB' w' L' s' x' h' hs'=>pR eF (Xr S hd hd2 t N n c hn hb hc hc2 b1 b2 s' h' hs')
 refine cl (ca eF rfl) ((Km S Ep n (.fn 44 [] [↑b1,↑b2]) (λ_:Unit=>Ct.tU t (N+1) (c+1) 0 {}) s (h.fr (.c r0 (.c r0 .n))) hs).mono ?_)
 rintro _ w ⟨tb3,s4,uz5,hq6,rfl,h⟩
 refine⟨_,rfl,?_⟩
 refine st (sg rfl)<|xe<|nx<|rt<|?_
 refine rr (jP results16 rfl)<|⟨tb3,s4,uz5,by unfold Ct.Iu;rw[hro];exact hq6,rfl,h⟩
theorem Yf(S:dN)[Gc S](hd:S.d+1<=349)(hd2:S.d+2<=349)(t:Ct.bC)(N n c:Nat)(hn:n<=N)(hb:n<=1000000)(hc:Ct.xK n<=c)(hc2:0+c<=9000000000000000000)(s:Ct.St)(h:SH B w (S.a s::L))(hs:Ct.Rm 60 s)(hro:t.readOnly=false):
  Calls prog 16 #[S.v,.agg [↑t.root,↑t.readOnly].toArray] w λe w'=>∃tb s' u,(Ct.Iu t (N+1) (c+1)).head s=(s',u)/\e=.returned (.pointer (some ⟨tb,0,none⟩))/\SH B w' (eQ S Ep n tb u 0::S.a s'::L):=by
 refine Ea (args:=[_,_]) func16 rfl ntmps16 rfl ?_
 refine sq<|rg<|sf (bx h rfl rfl)<|?_
 rintro _ w ⟨b1,rfl,h⟩
 refine sf (bx h rfl rfl)<|?_
 rintro _ w ⟨b2,rfl,h⟩
 refine st (sg rfl)<|xe<|nx<|sq<|sq<|rg<|st (fa tS rfl)<|st (ld xN rfl (h.c a0 rfl))<|st (nt rfl)<|xe<|nx<|ct rfl (tJ hro)<|sq<|rg<|st (ld oG rfl (h.c a1 rfl))<|?_
 have h:=h.fr .n
 have h:=YZ (S:=S) (F:=Ep) (n:=n) (j:=60) (args:=qI) (k:=λ_:Unit=>(.ret {err:=7}:Ct.I Ct.Result)) (v:=(.fn 43 [] [])) [] h λB' w' L' s' x' h' hs'=>pR eF (Vn S n s' h')
 refine cl (ca eF rfl) ((Km S Ep n (.fn 43 [] []) (λ_:Unit=>(.ret {err:=7}:Ct.I Ct.Result)) s (h.fr (.c r0 (.c r2 .n))) hs).mono ?_)
 rintro _ w ⟨tb3,s4,uz5,hq6,rfl,h⟩
 refine⟨_,rfl,?_⟩
 refine st (sg rfl)<|xe<|nx<|rt<|tr<|?_
 refine rr (jP results16 rfl)<|⟨tb3,s4,uz5,by unfold Ct.Iu;rw[hro];exact hq6,rfl,(h.fr (.c r2 (.c r2 .n))).drop.drop⟩
theorem Wh(S:dN)[Gc S](hd:S.d+1<=349)(hd2:S.d+2<=349)(t:Ct.bC)(N n c:Nat)(hn:n<=N)(hb:n<=1000000)(hc:Ct.xK n<=c)(hc2:0+c<=9000000000000000000)(s:Ct.St)(h:SH B w (S.a s::L))(hs:Ct.Rm 60 s):
  Calls prog 16 #[S.v,.agg (cU t).toArray] w λe w'=>∃tb s' u,(Ct.Iu t (N+1) (c+1)).head s=(s',u)/\e=.returned (.pointer (some ⟨tb,0,none⟩))/\SH B w' (eQ S Ep n tb u 0::S.a s'::L):=by
 cases hro:t.readOnly with
 |true=>exact FK S hd hd2 t N n c hn hb hc hc2 s h hs hro
 |false=>exact Yf S hd hd2 t N n c hn hb hc hc2 s h hs hro
end Go.Q9
end
section
namespace Go.Ct
def k6:Nat:=2000000000000000
def Ww:Nat->St×I Result
 |0=>(Iu z6 1001 (k6+1)).head WY
 |i+1=>(Ww i).2.step (Ww i).1
theorem RQ:∀i,i<3->(Ww i).2.ended.isSome=false:=by decide+kernel
theorem BJ:(Ww 3).2.ended.isSome=true:=by decide+kernel
def ZW:Result:=(Ww 3).2.ended.getD {}
theorem SV:(Ww 3).2=.ret ZW:=HX BJ _
theorem SZ:ZW={count:=1}:=by decide+kernel
set_option maxRecDepth 100000
theorem UU:∀i,i<4->∀n∈(Ww i).1.aG,n.Fit (Ww i).1.aG.length:=by decide+kernel
theorem NL:∀i,i<4->(Ww i).1.size<=1000:=by decide+kernel
theorem YF(i:Nat)(h:i<4):Rm 101 (Ww i).1:=⟨UU i h,by have:=NL i h;unfold cN;omega⟩
theorem MU:xK 1000<=k6:=by decide+kernel
theorem BK:0+k6<=9000000000000000000:=by decide+kernel
end Go.Ct
end
section
namespace Go.Q9
open Go.Proofs.Tryz
open Go.E
end Go.Q9
end
section
namespace Go.Q9
open Go.Proofs.Tryz
open Go.RowKit Go.E
attribute [local irreducible] gB wpS
variable{B w:World}{L:List As}
theorem ZF(ab:Nat)(h:SH B w ((cV ab).a Ct.WY::L)):
  Calls prog 16 #[(cV ab).v,.agg (cU Ct.z6).toArray] w λe w'=>∃tb,e=.returned (.pointer (some ⟨tb,0,none⟩))/\SH B w' (eQ (cV ab) Ep 1000 tb (Ct.Ww 0).2 0::(cV ab).a (Ct.Ww 0).1::L):=by
 refine(Wh (cV ab) (by show 1+1<=349;decide) (by show 1+2<=349;decide) Ct.z6 1000 1000 Ct.k6 (bD _) (by decide) Ct.MU Ct.BK Ct.WY h Ct.XR).mono ?_
 rintro e w' ⟨tb,s',u,hq,rfl,h⟩
 have e0:Ct.Ww 0=(s',u):=hq
 rw[e0]
 exact⟨tb,rfl,h⟩
theorem PD(ab tb:Nat)(h:SH B w (eQ (cV ab) Ep 1000 tb (Ct.Ww 0).2 0::(cV ab).a (Ct.Ww 0).1::L)):Calls prog 12 #[↑tb,.int .i64 9] w λe w'=>e=.returned (.int .i64 3)/\SH B w' (eQ (cV ab) Ep 997 tb (.ret Ct.ZW) 3::(cV ab).a (Ct.Ww 3).1::L):=by
 refine(NR (cV ab) (AB ab) 1000 tb 0 3 9 Ct.Ww h (λi=>rfl) Ct.RQ Ct.BJ (by decide) (by decide) (λi hi=>Ct.YF i (by omega)) (by decide) (by decide)).mono ?_
 rintro e w' ⟨rfl,h⟩
 rw[Ct.SV]at h
 exact⟨rfl,h⟩
theorem XY:Cn (Mf (id Ct.ZW)) [.int .i64 0,↑false,.int .u64 0,.string .empty,.int .i64 1,.int .i64 0,.int .i64 0,↑false]=true:=by rw[Ct.SZ];simp[Cn,WN,Mf]
theorem TE(ab:Nat)(t:Ct.bC)(s:Ct.St)(hro:t.readOnly=false)(hs:Ct.Rm 60 s)(h:SH B w ((cV ab).a s::L)):
  Calls prog 16 #[(cV ab).v,.agg (cU t).toArray] w λe w'=>∃tb,e=.returned (.pointer (some ⟨tb,0,none⟩))/\SH B w' (eQ (cV ab) Ep 1000 tb (.ret {err:=7}) 0::(cV ab).a s::L):=by
 refine(Wh (cV ab) (by show 1+1<=349;decide) (by show 1+2<=349;decide) t 1000 1000 Ct.k6 (bD _) (by decide) Ct.MU Ct.BK s h hs).mono ?_
 rintro e w' ⟨tb,s',u,hq,rfl,h⟩
 have e0:(s,(.ret {err:=7}:Ct.I Ct.Result))=(s',u):=by rw[<- hq];unfold Ct.Iu;rw[hro];rfl
 injection e0 with e1 e2
 subst e1 e2
 exact⟨tb,rfl,h⟩
theorem XB:Cn (Mf (id ({err:=7}:Ct.Result))) [.int .i64 7,↑false,.int .u64 0,.string .empty,.int .i64 0,.int .i64 0,.int .i64 0,↑false]=true:=by simp[Cn,WN,Mf]
theorem Uh(h:SH B w (yL::L)):
  Calls prog 17 #[] w λe w'=>e=.returned ↑true/\SH B w' (yL::L):=by
 obtain⟨g,hW⟩:=Ct.d5
 have hcok:Ct.kZ g Ct.WQ:=hW.Gz (c:=Ct.WQ) (by decide) (by decide) (List.mem_singleton.2 rfl) (λ_=>rfl)
 have hst:=Ct.gW (c:=Ct.WQ) hW.fit (by decide)
 refine Ea (args:=[]) func17 rfl ntmps17 rfl ?_
 refine sq<|rg<|st (sg rfl)<|xe<|nx<|sq<|rg<|cl (ca eF rfl) ((EG (h.fr .n)).mono ?_)
 rintro _ w ⟨mb,rfl,h⟩
 refine⟨_,rfl,?_⟩
 refine st (sg rfl)<|xe<|nx<|sq<|rg<|st (mv rfl)<|cl (ca eF rfl) ((HR mb (h.fr (.c r0 .n))).mono ?_)
 rintro _ w ⟨rfl,h⟩
 refine⟨_,rfl,?_⟩
 refine sf (al h JJ)<|?_
 rintro _ w ⟨b1,rfl,h⟩
 refine sf (so h rfl rfl rfl zN rfl (.r (.r .d)) u0)<|?_
 rintro _ w h
 refine xe<|nx<|sq<|rg<|st (mv rfl)<|st (gJ rfl (dK (h.b a0)) sM)<|st (bd [.int .i64 8,↑Ct.QD.root,↑Ct.QD.readOnly,.int .i64 0,.int .i64 0,.int .i64 0,.int .i64 0,.int .u64 0,.int .u64 0,.string (⟨#[97]⟩),.int .u64 8,.int .u64 0,.int .i64 0,↑false,↑false,.slice none 0 0,.slice none 0 0,.int .i64 0,↑false,.int .u64 0,.string .empty,.int .i64 0,.int .i64 0,.int .i64 0,↑false] Hw rfl (by kernel_rfl))<|cl (ca eF rfl) ((rW mb (Ct.hJ {}).1 Ct.WQ Ct.FU (h.fr (.c r1 .n)) hst.1 hst.2 (by decide) (by decide) Ct.GR (by decide) (by decide)).mono ?_)
 rintro _ w ⟨xb,rfl,h,k⟩
 have hl:=Ct.uM.start hW.gw hW.PI hW.fit hcok (by decide) Ct.GR k
 refine⟨_,rfl,?_⟩
 refine st (sg rfl)<|xe<|nx<|sq<|bk<|?_
 refine lp (α:=Nat) (λρ=>(.c 1 ↑mb (.c 2 ↑b1 (.c 3 ↑xb .n)))) (λρ w=>SH B w (XA xb mb (Ct.XO ρ)::bl b1 (cU Ct.QD) 35::yL::L)/\(ρ<=8)/\(Ct.uM g (Ct.hJ {}).1.size ρ (Ct.XO ρ))) (λρ=>8-ρ) 0 ⟨rfl,rfl,rfl,trivial⟩ ⟨h,(Xe _),hl⟩ ?_
 rintro i w ⟨h,hi,hl⟩
 refine sq<|sq<|rg<|st (mv rfl)<|cl (ca eF rfl) ((vH xb mb (Ct.XO i) (h.fr (.c r0 .n))).mono ?_)
 rintro _ w ⟨rfl,h⟩
 refine⟨_,rfl,?_⟩
 refine st (nt rfl)<|xe<|nx<|?_
 rcases bI (!(Ct.XO i).e.done)with hd2|hd2
 ·have hd3:(Ct.XO i).e.done=false:=(lC _).mp hd2
  refine ct rfl hd2<|sk<|nx<|bk<|?_
  have hi8:i+1<=8:=by
   rcases PQ i 8 with hz|hz
   ·exact hz
   ·obtain rfl:i=8:=by omega
    have h1:=hd3
    rw[Ct.TZ]at h1;cases h1
  have h1:(Ct.hJ {}).1.size<=1000:=by decide
  have hrd:(Ct.hJ {}).1.size+199*i+120<=Ct.room:=by unfold Ct.room;omega
  refine rg<|st (mv rfl)<|cl (ca eF rfl) ((Pq xb mb (Ct.XO i) Ct.FU (h.fr (.c r0 .n)) hd3 (hl.ready hrd).1 (hl.ready hrd).2 (by decide) hl.call.1 hl.call.2.1 hl.call.2.2.1 hl.call.2.2.2).mono ?_)
  rintro _ w ⟨rfl,h,k⟩
  refine⟨_,rfl,?_⟩
  refine xe<|bn<|nx<|?_
  exact⟨((i+1)),⟨rfl,rfl,rfl,trivial⟩,⟨h,hi8,(hl.step hd3 (by unfold Ct.Cx;omega) k)⟩,by(try dsimp only);omega⟩
 ·have hd4:(Ct.XO i).e.done=true:=(Pe _).mp hd2
  refine cf rfl hd2<|xt<|tx<|tx<|be<|nx<|sq<|?_
  have hi8:i=8:=by
   rcases PQ i 8 with hz|hz
   ·have h1:=hd4
    rw[Ct.RG i hz]at h1;cases h1
   ·omega
  subst hi8
  have h:=SH.Qi (h.fr (.c r0 .n))
  have h:SH B w (cR mb Ct.AQ::bl b1 (cU Ct.QD) 35::yL::L):=h
  obtain⟨⟨pn,cn,pc,cc,zs⟩,hz0,h⟩:=h.mo
  have h:SH B w (bl mb ([.slice pn zs.length cn,.slice pc Ct.AQ.cells.length cc,↑(Ct.AQ.gen:Int),↑(Ct.AQ.acc:Int)]) 80::aU 118 14 (.slice pn zs.length cn) zs.length (zs.flatMap cB)::aU 43 1 (.slice pc Ct.AQ.cells.length cc) Ct.AQ.cells.length (Ct.AQ.cells.map (Value.int .i64))::bE zs::bl b1 (cU Ct.QD) 35::yL::L):=h
  have hzs:zs.map Prod.fst=aW Ct.AQ:=hz0
  clear hz0
  have hsz:Ct.AQ.size<=100000000000:=by have:=Ct.QB;omega
  refine rg<|st (mv rfl)<|st (nc rfl rfl)<|st (fa Bs rfl)<|st (gJ (cs:=[.slice pn zs.length cn,.slice pc Ct.AQ.cells.length cc,↑(Ct.AQ.gen:Int)]) rfl (eP (h.b a0) 0 rfl) XF)<|cl (ca eF rfl) ((OT Ct.AQ zs pn pc cn cc (h.fr (.c r1 (.c r1 (.c r1 .n)))) hzs Ct.BP (lS Ct.TW hsz) hsz).mono ?_)
  rintro _ w ⟨ab,rfl,h⟩
  refine⟨_,rfl,?_⟩
  refine st (mv rfl)<|st (xr rfl rfl)<|st (xr rfl rfl)<|st (sg rfl)<|st (sg rfl)<|xe<|nx<|sq<|sq<|rg<|st (mv rfl)<|st (i4 DL rfl rfl)<|xe<|nx<|cF rfl<|sk<|nx<|sq<|rg<|st (mv rfl)<|st (mi DL rfl rfl)<|st (fa BW rfl)<|st (ld qK rfl (h.c a5 rfl))<|st (bd [↑Ct.QD.root,↑true] NI rfl (by kernel_rfl))<|?_
  have h:=LX (h.fr (.c r0 (.c r5 .n)))
  refine cl (ca eF rfl) ((ZF ab (h.fr (.c r0 .n))).mono ?_)
  rintro _ w ⟨tb,rfl,h⟩
  refine⟨_,rfl,?_⟩
  refine st (sg rfl)<|xe<|nx<|sq<|rg<|st (mv rfl)<|st (J7 VI rfl rfl)<|st (mv rfl)<|gT rfl rfl rfl<|st (mv rfl)<|gT rfl rfl rfl<|cl (ca eF rfl) ((PD ab tb (h.fr (.c r0 (.c r0 .n)))).mono ?_)
  rintro _ w ⟨rfl,h⟩
  refine⟨_,rfl,?_⟩
  refine gT rfl rfl rfl<|st (bi rfl rfl rfl)<|st (pT rfl rfl rfl)<|st (mv rfl)<|gT rfl rfl rfl<|st (mv rfl)<|gT rfl rfl rfl<|cl (ca eF rfl) ((Ew (cV ab) 997 tb 3 Ct.ZW (h.fr (.c r0 .n))).mono ?_)
  rintro _ w ⟨rfl,h⟩
  refine⟨_,rfl,?_⟩
  refine gT rfl rfl rfl<|st (bd [.int .i64 0,↑false,.int .u64 0,.string .empty,.int .i64 1,.int .i64 0,.int .i64 0,↑false] Cy rfl (by kernel_rfl))<|gT rfl rfl rfl<|st (n5 VG rfl rfl rfl rfl)<|st (pT rfl rfl rfl)<|st (sg rfl)<|xe<|nx<|rt<|?_
  refine rr (jP results17 rfl)<|?_
  have h:=VB (h.fr (.c r1 .n))
  exact⟨by rw[XY],(h.fr (.c r0 (.c r1 (.c r1 (.c r1 (.c r1 (.c r1 (.c r1 .n)))))))).drop.drop.drop.drop.drop.drop.drop⟩
theorem Gf(l0:List Int)(p0:Option Addr)(c0:Nat)(root:Int)(h:SH B w (bV 1 (.slice p0 l0.length c0) l0.length (l0.map (Value.int .i64))::yL::L)):
  Calls prog 4 #[.slice p0 l0.length c0,↑root] w λe w'=>e=.returned ↑true/\SH B w' (yL::L):=by
 refine Ea (args:=[_,_]) func4 rfl ntmps4 rfl ?_
 refine sq<|rg<|st (sg rfl)<|xe<|nx<|sq<|rg<|st (mv rfl)<|cl (ca eF rfl) ((Zz l0 p0 c0 (h.fr (.c r0 .n))).mono ?_)
 rintro _ w ⟨b,mb,aI,g,s,ts,zs,hmk,hW,rfl,h⟩
 have hsz:s.size<=37000000000:=by have:=hW.size;omega
 refine⟨_,rfl,?_⟩
 refine st (sg rfl)<|xe<|nx<|sq<|?_
 have h:=h.fr (.c r0 .n)
 obtain⟨⟨twp,twc,xwp,xwc⟩,h⟩:=h.wo
 have h:SH B w (bl b ([↑mb,.int .u64 (aI:Int),.slice twp ts.length twc,.slice xwp zs.length xwc]) 32::aU 35 2 (.slice twp ts.length twc) ts.length (ts.flatMap cU)::aU 57 1 (.slice xwp zs.length xwc) zs.length (zs.flatMap Ii)::eV mb zs::cR mb s::yL::L):=h
 refine rg<|st (mv rfl)<|st (nc rfl rfl)<|st (fa BD rfl)<|st (ld Et rfl (h.c a0 rfl))<|cl (ca eF rfl) ((CN mb s (h.fr (.c r4 .n)) (by omega) (Ct.IE hW.gw hW.PI) (lS hW.fit (by omega))).mono ?_)
 rintro _ w ⟨ab,rfl,h⟩
 obtain⟨hl0,hs0⟩:=hW.M7
 refine⟨_,rfl,?_⟩
 refine st (sg rfl)<|xe<|nx<|sq<|sq<|?_
 have h:=YT h a6
 have h:=LX (h.fr (.c r1 (.c r0 .n)))
 refine rg<|st (mv rfl)<|st (i4 DL rfl rfl)<|xe<|nx<|cF rfl<|sk<|nx<|sq<|sq<|rg<|st (mv rfl)<|st (nc rfl rfl)<|st (fa tO rfl)<|st (ld Jo rfl (h.c a2 rfl))<|st (mv rfl)<|st (bd [↑root,↑false] NI rfl (by kernel_rfl))<|sf (bu [↑root,↑false] h zO CI rfl (by kernel_rfl) rfl (by decide) (by decide))<|?_
 rintro _ w ⟨b1,rfl,h⟩
 refine sf (ap h zO rfl CI rfl (by decide) rfl rfl (λ_=>u4) (h.ro a0) (by simp[Value.oneCell']) (VO ts ⟨root,false⟩) (fW (enc:=cU) ts ⟨root,false⟩) (by unfold maxLen;have:=hW.Qr;simp;omega) (by have:=hW.Qr;simp;omega))<|?_
 rintro _ w ⟨p2,c3,rfl,h⟩
 refine st (ln zO rfl rfl)<|st (mv rfl)<|xe<|nx<|bk<|?_
 have hxl:(ts++[(⟨root,false⟩:Ct.bC)]).length<=10:=by have:=hW.Qr;simp;omega
 refine lp (α:=Nat) (λρ=>(.c 6 (.pointer (some ⟨ab,0,none⟩)) (.c 29 (.slice p2 (ts++[(⟨root,false⟩:Ct.bC)]).length c3) (.c 30 (.int .i64 (((ts++[(⟨root,false⟩:Ct.bC)]).length:Nat):Int)) (.c 31 (.int .i64 (ρ:Int)) .n))))) (λρ w=>SH B w (aU 35 2 (.slice (some ⟨b1,0,none⟩) 1 1) 1 ([.int .i64 root,.bool false])::(cV ab).a ({s with acc:=0})::cR mb {s with acc:=0}::bl b ([.pointer (some ⟨mb,0,none⟩),.int .u64 (aI:Int),.slice twp ts.length twc,.slice xwp zs.length xwc]) 32::aU 35 2 (.slice p2 (ts++[(⟨root,false⟩:Ct.bC)]).length c3) (ts++[(⟨root,false⟩:Ct.bC)]).length ((ts++[(⟨root,false⟩:Ct.bC)]).flatMap cU)::aU 57 1 (.slice xwp zs.length xwc) zs.length (zs.flatMap Ii)::eV mb zs::yL::L)/\(ρ<=(ts++[(⟨root,false⟩:Ct.bC)]).length)) (λρ=>(ts++[(⟨root,false⟩:Ct.bC)]).length -ρ) 0 ⟨rfl,rfl,rfl,rfl,trivial⟩ ⟨h,Xe _⟩ ?_
 rintro i w ⟨h,hi⟩
 refine sq<|rg<|st (bi rfl rfl rfl)<|xe<|nx<|sq<|?_
 rcases bI (decide (((i:Int):Int)<(((ts++[(⟨root,false⟩:Ct.bC)]).length:Nat):Int)))with hd4|hd4
 have hg5:=dA hd4
 refine ct rfl hd4<|sk<|nx<|sq<|bk<|sq<|rg<|?_
 obtain⟨b6,rfl⟩:=h.fp a4 (by omega)
 refine st (ix (j:=i) zO zN rfl rfl (by omega))<|st (gJ rfl ((h.ro a4).x Ng (by decide) (by omega) {}) sM)<|sf (al h JJ)<|?_
 rintro _ w ⟨b7,rfl,h⟩
 refine sf (so h rfl rfl rfl zN rfl (.r (.r .d)) u0)<|?_
 rintro _ w h
 refine xe<|nx<|sq<|sq<|rg<|st (fa tS rfl)<|st (ld xN rfl (h.c a0 rfl))<|xe<|nx<|?_
 rcases bI ((ts++[(⟨root,false⟩:Ct.bC)]).getD i {}).readOnly with hd8|hd8
 refine ct rfl hd8<|xt<|tx<|be<|nx<|rg<|st (bw rfl rfl (gN (c:=((i+1:Nat):Int)) (by omega) (by omega) (by omega)))<|st (mv rfl)<|xe<|nx<|?_
 exact⟨((i+1)),⟨rfl,rfl,rfl,rfl,trivial⟩,⟨h.drop,by(try dsimp only);omega⟩,by(try dsimp only);omega⟩
 refine cf rfl hd8<|sk<|nx<|sq<|rg<|st (mv rfl)<|st (mi DL rfl rfl)<|st (gJ rfl (dK (h.b a0)) sM)<|cl (ca eF rfl) ((TE ab ((ts++[(⟨root,false⟩:Ct.bC)]).getD i {}) {s with acc:=0} hd8 ⟨hl0.fit,by unfold Ct.cN;omega⟩ (h.fr (.c r2 .n))).mono ?_)
 rintro _ w ⟨tb,rfl,h⟩
 refine⟨_,rfl,?_⟩
 refine st (sg rfl)<|xe<|nx<|sq<|rg<|st (mv rfl)<|st (i4 VI rfl rfl)<|st (mv rfl)<|gT rfl rfl rfl<|st (mv rfl)<|gT rfl rfl rfl<|cl (ca eF rfl) ((DO (cV ab) 1000 tb 0 (.ret ({err:=7}:Ct.Result)) (h.fr (.c r0 .n))).mono ?_)
 rintro _ w ⟨rfl,h⟩
 refine⟨_,rfl,?_⟩
 refine gT rfl rfl rfl<|st (nt rfl)<|st (pF rfl rfl rfl)<|st (mv rfl)<|gT rfl rfl rfl<|st (mv rfl)<|gT rfl rfl rfl<|cl (ca eF rfl) ((LN ab 1000 tb 0 5 _ _ (by decide) (by decide) (h.fr (.c r0 (.c r0 .n)))).mono ?_)
 rintro _ w ⟨rfl,h⟩
 refine⟨_,rfl,?_⟩
 refine gT rfl rfl rfl<|st (bi rfl rfl rfl)<|st (pF rfl rfl rfl)<|st (mv rfl)<|gT rfl rfl rfl<|st (mv rfl)<|gT rfl rfl rfl<|cl (ca eF rfl) ((Ew (cV ab) 1000 tb 0 ({err:=7}:Ct.Result) (h.fr (.c r0 .n))).mono ?_)
 rintro _ w ⟨rfl,h⟩
 refine⟨_,rfl,?_⟩
 refine gT rfl rfl rfl<|st (bd [.int .i64 7,↑false,.int .u64 0,.string .empty,.int .i64 0,.int .i64 0,.int .i64 0,↑false] Cy rfl (by kernel_rfl))<|gT rfl rfl rfl<|st (XT VG rfl rfl rfl rfl)<|st (pF rfl rfl rfl)<|xe<|nx<|cf rfl (sZ XB)<|sk<|bn<|nx<|rg<|st (bw rfl rfl (gN (c:=((i+1:Nat):Int)) (by omega) (by omega) (by omega)))<|st (mv rfl)<|xe<|nx<|?_
 exact⟨((i+1)),⟨rfl,rfl,rfl,rfl,trivial⟩,⟨((h.fr (.c r0 (.c r1 .n))).drop.drop.fr (.c r1 (.c r0 (.c r0 (.c r0 (.c r0 (.c r0 (.c r0 (.c r0 .n))))))))),by(try dsimp only);omega⟩,by(try dsimp only);omega⟩
 have hg9:=dP hd4
 refine cf rfl hd4<|xt<|tx<|tx<|be<|nx<|sq<|rg<|st (mv rfl)<|cl (ca eF rfl) ((Xv ab {s with acc:=0} (h.fr (.c r1 .n)) (by omega)).mono ?_)
 rintro _ w ⟨rfl,h⟩
 refine⟨_,rfl,?_⟩
 refine st (mv rfl)<|st (xr rfl rfl)<|st (xr rfl rfl)<|st (xr rfl rfl)<|st (sg rfl)<|st (sg rfl)<|st (sg rfl)<|xe<|nx<|sq<|rg<|cl (ca eF rfl) ((Uh (h.fr (.c r7 .n))).mono ?_)
 rintro _ w ⟨rfl,h⟩
 refine⟨_,rfl,?_⟩
 refine st (mv rfl)<|gT rfl rfl rfl<|st (mv rfl)<|gT rfl rfl rfl<|st (bi rfl rfl rfl)<|st (pT rfl rfl rfl)<|st (sg rfl)<|xe<|nx<|rt<|?_
 refine rr (jP results4 rfl)<|⟨rfl,(h.fr (.c r1 (.c r1 (.c r1 (.c r1 (.c r1 (.c r1 (.c r1 .n)))))))).drop.drop.drop.drop.drop.drop.drop⟩
end Go.Q9
end
