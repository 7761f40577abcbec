/- Parts of a proof: Sz, EvA, Azl, Zr, Lu, Zk. -/
import Derived.Test.YtlijgnlhkcbgpaaGreatDoorW44
set_option linter.unusedVariables false
set_option linter.unusedSimpArgs false
set_option maxRecDepth 100000
set_option maxHeartbeats 4000000
section
namespace Go.Q9
open Go.Proofs.Tryz
open Go.RowKit Go.E
open Go.Ct (qN qA qC qG qT qF)
attribute [local irreducible] gB wpS
theorem O8{α:Type}{u:Ct.I α}(h:u.ended.isSome=true):∃z,u=.ret z:=by cases u<;>first|exact⟨_,rfl⟩|cases h
theorem V9{α:Type}{u:Ct.I α}(h:u.ended.isSome=false):u.ended=none:=by cases u<;>first|rfl|cases h
instance {S:dN}{pb:Nat}{hd:S.d+1<=346}[hT:Um S]:Um (oG S pb hd):=⟨λ{w O R} hp=>by
 obtain⟨Os,Rs,h1,_⟩:=hp
 exact hT.tab (h1 1 _ rfl)⟩
variable{B w:World}{L:List As}
theorem aC3(S:dN)[Um S](pb:Nat)(hd:S.d+1<=346)(hd2:S.d+2<=346)(ib:Nat)(t:Ct.bC)(N n:Nat)(hn:n<=N)(hb:n<=8000000000000000000)(it:Ct.hB)(v:Int)(b:Bool)(s:Ct.St)(h:SH B w (Di ib t it::Xp S pb v b::S.a s::L))(hs:Ct.Rm 60 s)(hok:Ct.qV n it):
  Calls prog 10 #[↑ib,.iface 130 (QQ pb)] w λe w'=>∃tb s' u v' b',(Ct.Ax t (N+1) it).head s=(s',u)/\e=.returned (.pointer (some ⟨tb,0,none⟩))/\SH B w' (fD (oG S pb hd) (AT ib t) n tb u 0::Xp S pb v' b'::S.a s'::L):=by
 refine(V2 (oG S pb hd) hd2 ib t N n hn hb it s ((DL (hd:=hd) (FF (h.fr (.c r1 (.c r1 .n))))).fr (.c r1 .n)) hs hok).mono ?_
 rintro e w' ⟨tb,s',u,hq,rfl,h⟩
 obtain⟨v',b',h⟩:=IX (h.fr (.c r1 .n))
 exact⟨tb,s',u,v',b',hq,rfl,h.fr (.c r2 .n)⟩
def JW(S:dN)(pb cb ib:Nat)(t:Ct.bC)(N n:Nat):Prop:=∀(c:Nat) (k:Int) (it:Ct.hB) (v:Int) (b:Bool) (B w:World) (L:List As) (s:Ct.St),SH B w (bl cb ([.iface 130 ↑pb,↑ib,↑k]) 103::Di ib t it::Xp S pb v b::S.a s::L)->Ct.Rm 60 s->Ct.qV n it->Ct.Bj n+it.mu<=c->
 Calls prog 42 #[↑cb] w λe w'=>CP S Mi n B (Ct.wU t (N+1) (c+1) k it) s L e w'
theorem KW(S:dN)(pb cb ib:Nat)(t:Ct.bC)(N n m:Nat)(hm:m<n)(hrec:JW S pb cb ib t N m)(c:Nat)(k:Int)(z:Ct.Result×Ct.hB)(s:Ct.St)(h:SH B w (se [Di ib t z.2,bl cb ([.iface 130 ↑pb,↑ib,↑k]) 103,JC S pb]::S.a s::L))(hs:Ct.Rm 70 s)(hok:Ct.qV m z.2)(hc:Ct.Bj n<=c):
  Calls prog 70 #[↑cb,.agg (Mf (Prod.fst z)).toArray] w λe w'=>CP S Mi m B (Ct.J' t (N+1) c k z) s L e w':=by
 have h:=SH.se (l:=[_,_,_]) h
 obtain⟨⟨v,b⟩,h⟩:=SH.ex (f:=λz:Int×Bool=>Xp S pb z.1 z.2) (h.fr (.c r2 .n))
 dsimp only at h
 refine Ea (args:=[_,_]) func70 rfl ntmps70 rfl ?_
 refine sq<|rg<|sf (bx h rfl rfl)<|?_
 rintro _ w ⟨b1,rfl,h⟩
 refine sf (al h nN)<|?_
 rintro _ w ⟨b2,rfl,h⟩
 refine xe<|nx<|sq<|sq<|rg<|st (fa Au rfl)<|st (ld xN rfl (h.c a1 rfl))<|st (nt rfl)<|xe<|nx<|?_
 rcases mD (!(Prod.fst z).found)with hd3|hd3
 have hd4:(Prod.fst z).found=false:=(lC _).mp hd3
 refine ct rfl hd3<|sq<|rg<|st (mv rfl)<|st (nc rfl rfl)<|st (fa Bh rfl)<|st (ld jE rfl (h.c a4 rfl))<|st (bd [.int .i64 0,↑false,.int .u64 0,.string .empty,↑k,.int .i64 0,.int .i64 0,↑false] Oo rfl (by kernel_rfl))<|cl (ca eF rfl) ((gV ({count:=k}:Ct.Result) (h.fr .n)).mono ?_)
 rintro _ w ⟨rfl,h⟩
 refine⟨_,rfl,?_⟩
 refine sf (so h rfl rfl rfl iR (eO _) (.r (.r (.r (.r (.r (.r (.r (.r (.r (.r (.r (.r (.r (.r .d)))))))))))))) u0)<|?_
 rintro _ w h
 refine xe<|nx<|rt<|tr<|?_
 refine rr (bP results70 rfl (h.b a0) iO)<|?_
 have h:=kG (S:=S) (n:=m) (ρ:=id) (M:=LJ) ({count:=k}:Ct.Result) (SH.is (l:=[]) h)
 exact fI (qT hd3 rfl) (h.fr (.c r1 (.c r1 (.c r1 (.c r1 (.c r1 .n)))))).drop.drop.drop.drop.drop
 obtain⟨cz,rfl⟩:∃d,c=d+1:=⟨c-1,by have:=Ct.fuel_lt hm;omega⟩
 have hd5:(Prod.fst z).found=true:=(AD _).mp hd3
 refine cf rfl hd3<|sk<|nx<|sq<|rg<|st (mv rfl)<|st (nc rfl rfl)<|st (fa Bh rfl)<|st (ld jE rfl (h.c a4 rfl))<|st (bi rfl rfl rfl)<|st (nc rfl rfl)<|st (fa Bh rfl)<|sf (so h rfl rfl rfl Bf rfl (.s (.s (.r .d))) u4)<|?_
 rintro _ w h
 refine xe<|nx<|sq<|rg<|st (mv rfl)<|cl (ca eF rfl) ((hrec cz (Ct.wr (k+1)) z.2 v b _ _ _ s (h.fr (.c r4 (.c r3 (.c r2 (.c r2 .n))))) (hs.less (by decide)) hok (by have:=Ct.aBo hok;have:=Ct.fuel_lt hm;omega)).mono ?_)
 rintro _ w ⟨s6,t7,c8,hq9,rfl,h⟩
 refine⟨_,rfl,?_⟩
 refine sf (so h rfl rfl rfl iR (eO _) (.r (.r (.r (.r (.r (.r (.r (.r (.r (.r (.r (.r (.r (.r .d)))))))))))))) u2)<|?_
 rintro _ w h
 refine xe<|nx<|rt<|?_
 refine rr (bP results70 rfl (h.b a2) iO)<|?_
 exact fI (qF hd3 (hq9)) (h.fr (.c r2 (.c r2 .n))).drop.drop
theorem F8(S:dN)[Um S](hd:S.d+1<=346)(hd2:S.d+2<=346)(pb cb ib:Nat)(t:Ct.bC)(N:Nat)(n:Nat)(hn:n<=N)(hb:n<=1000000)(hrec:∀j,j<n->JW S pb cb ib t N j)(c0:Nat)(k0:Int)(it0:Ct.hB)(v0:Int)(b0:Bool)(s:Ct.St)(h:SH B w (bl cb ([.iface 130 ↑pb,↑ib,↑k0]) 103::Di ib t it0::bl pb ([S.v,↑v0,↑b0]) 132::S.a s::L))(hs:Ct.Rm 60 s)(hok0:Ct.qV n it0)(hc0:Ct.Bj n+it0.mu<=c0):
  Calls prog 42 #[↑cb] w λe w'=>CP S Mi n B (Ct.wU t (N+1) (c0+1) k0 it0) s L e w':=by
 refine Ea (args:=[_]) func42 rfl ntmps42 rfl ?_
 refine sq<|rg<|sf (al h nN)<|?_
 rintro _ w ⟨b1,rfl,h⟩
 refine xe<|nx<|bk<|?_
 refine lp (α:=Ct.hB×Int×Nat×Int×Bool) (λρ=>(.c 0 ↑cb (.c 2 ↑b1 .n))) (λρ w=>SH B w (bl cb ([.iface 130 ↑pb,↑ib,.int .i64 ρ.2.1]) 103::Di ib t ρ.1::bl pb ([S.v,.int .i64 ρ.2.2.2.1,.bool ρ.2.2.2.2]) 132::bl b1 ([.int .i64 0,.int .i64 0,.int .i64 0,.int .i64 0,.nilFunc,.nilFunc,.int .i64 0,↑false,.int .u64 0,.string .empty,.int .i64 0,.int .i64 0,.int .i64 0,↑false]) 91::S.a s::L)/\((Ct.wU t (N+1) (c0+1) k0 it0).head s=(Ct.wU t (N+1) (ρ.2.2.1+1) ρ.2.1 ρ.1).head s)/\(Ct.qV n ρ.1)/\(Ct.Bj n+Ct.hB.mu ρ.1<=ρ.2.2.1)) (λρ=>Ct.hB.mu ρ.1) (it0,k0,c0,v0,b0) ⟨rfl,rfl,trivial⟩ ⟨(h.fr (.c r1 (.c r1 (.c r1 (.c r0 (.c r0 .n)))))),rfl,hok0,hc0⟩ ?_
 rintro⟨it,k,c,v,b⟩ w ⟨h,hT,hok,hc⟩
 dsimp only at *
 refine bk<|sq<|dZ [1,3,5,7,9,11,13,15,16,18] (by kernel_rfl) h (.c r0 .n) λw h=>tk (λW H=>mv rfl)<|tk (λW H=>nc rfl rfl)<|tk (λW H=>fa W4 rfl)<|tk (λW H=>ld sM rfl (H.c a0 rfl))<|tk (λW H=>mv rfl)<|tk (λW H=>nc rfl rfl)<|tk (λW H=>fa KG rfl)<|tk (λW H=>ld qH rfl (H.c a0 rfl))<|cs (ca eF rfl) ((aC3 S pb hd hd2 ib t N n hn (by omega) it v b s (h.fr (.c r1 (.c r1 (.c r2 .n)))) hs hok).mono ?_)
 rintro _ w ⟨tb,s2,uz3,vz4,bz5,hq6,rfl,h⟩
 have hw':=(Ct.MM (t:=t) (n:=N+1) (w:=it)).head (j:=42) (s:=s) hs
 have hl':=Ct.vX (j:=42) (s:=s) (Ct.MM (t:=t) (n:=N+1) (w:=it)) hs (Ct.RY hok)
 rw[hq6]at hw' hl'
 refine⟨_,rfl,h.hs (.c r3 .n),?_⟩
 refine ef (sg rfl) (h.hs (.c r3 .n))<|xz<|nx<|sq<|sq<|rg<|st (mv rfl)<|cl (ca eF rfl) ((Y9 (oG S pb hd) n tb 0 uz3 (h.fr (.c r0 .n))).mono ?_)
 rintro _ w ⟨rfl,h⟩
 refine⟨_,rfl,?_⟩
 refine st (nt rfl)<|xe<|nx<|?_
 rcases mD (!uz3.ended.isSome)with hd7|hd7
 have hd8:uz3.ended.isSome=false:=(lC _).mp hd7
 have hu:=V9 hd8
 refine ct rfl hd7<|sq<|rg<|st (mv rfl)<|st (nc rfl rfl)<|st (fa KG rfl)<|st (ld qH rfl (h.c a3 rfl))<|st (mv rfl)<|st (mv rfl)<|st (mf rfl rfl)<|?_
 have h:=aCo (S:=S) (F:=Mi) (n:=n) (j:=70) (args:=Sq Prod.fst) (Q:=Ct.QI) (M:=λz=>se [Di ib t z.2,bl cb ([.iface 130 ↑pb,↑ib,↑k]) 103,JC S pb]) (k:=Ct.J' t (N+1) c k) (v:=(.fn 70 [↑cb] [])) [] h λm' hm' B' w' L' s' x' hx' h' hs'=>pR eF (KW S pb cb ib t N n m' hm' (hrec m' hm') c k x' s' h' hs' hx' (by omega))
 refine cl (ca eF rfl) ((JK S pb hd Prod.fst (λz=>Di ib t z.2) (bl cb ([.iface 130 ↑pb,↑ib,↑k]) 103) Ct.QI Mi Ct.Y8 n tb 0 (.fn 70 [↑cb] []) (Ct.J' t (N+1) c k) uz3 vz4 bz5 s2 (h.fr (.c r1 (.c r1 (.c r2 (.c r0 (.c r0 .n)))))) (hw'.1.less (by decide)) hu hw'.2 hl' (by omega)).mono ?_)
 rintro _ w ⟨s9,t10,c11,hq12,rfl,h⟩
 refine⟨_,rfl,?_⟩
 refine sf (so h rfl rfl rfl iR (eO _) (.r (.r (.r (.r (.r (.r (.r (.r (.r (.r (.r (.r (.r (.r .d)))))))))))))) u2)<|?_
 rintro _ w h
 refine xe<|nx<|rt<|tr<|bt<|tr<|bt<|?_
 refine rr (bP results42 rfl (h.b a2) iO)<|?_
 exact fI (hT.trans (Ct.CV hq6 (hq12))) (h.fr (.c r2 .n)).drop
 have hd13:uz3.ended.isSome=true:=(AD _).mp hd7
 obtain⟨z,hz⟩:=O8 hd13
 rw[hz]at h hq6 hl' hw'
 have hok2:Ct.qV n z.2:=by have:=hl';cases n<;>exact this
 refine cf rfl hd7<|sk<|nx<|sq<|sq<|rg<|st (mv rfl)<|cl (ca eF rfl) ((GA (oG S pb hd) n tb 0 z (h.fr (.c r0 .n))).mono ?_)
 rintro _ w ⟨rfl,h⟩
 refine⟨_,rfl,?_⟩
 refine st (fd E' rfl rfl)<|st (nt rfl)<|xe<|nx<|?_
 rcases mD (!(Prod.fst z).found)with hd14|hd14
 have hd15:(Prod.fst z).found=false:=(lC _).mp hd14
 refine ct rfl hd14<|sq<|rg<|st (mv rfl)<|st (nc rfl rfl)<|st (fa Bh rfl)<|st (ld jE rfl (h.c a3 rfl))<|st (bd [.int .i64 0,↑false,.int .u64 0,.string .empty,↑k,.int .i64 0,.int .i64 0,↑false] Oo rfl (by kernel_rfl))<|cl (ca eF rfl) ((gV ({count:=k}:Ct.Result) (h.fr .n)).mono ?_)
 rintro _ w ⟨rfl,h⟩
 refine⟨_,rfl,?_⟩
 refine sf (so h rfl rfl rfl iR (eO _) (.r (.r (.r (.r (.r (.r (.r (.r (.r (.r (.r (.r (.r (.r .d)))))))))))))) u4)<|?_
 rintro _ w h
 refine xe<|nx<|rt<|tr<|bt<|tr<|bt<|?_
 refine rr (bP results42 rfl (h.b a4) iO)<|?_
 have h:=kG (S:=S) (n:=n) (ρ:=id) (M:=LJ) ({count:=k}:Ct.Result) (SH.is (l:=[]) h)
 exact fI (hT.trans (Ct.CV hq6 (qT hd14 rfl))) (h.fr (.c r1 (.c r1 (.c r2 (.c r2 .n))))).drop.drop.drop.drop
 have hd16:(Prod.fst z).found=true:=(AD _).mp hd14
 refine cf rfl hd14<|sk<|nx<|rg<|st (mv rfl)<|st (nc rfl rfl)<|st (fa Bh rfl)<|st (ld jE rfl (h.c a3 rfl))<|st (bi rfl rfl rfl)<|st (nc rfl rfl)<|st (fa Bh rfl)<|sf (so h rfl rfl rfl Bf rfl (.s (.s (.r .d))) u3)<|?_
 rintro _ w h
 refine xe<|bn<|nx<|?_
 have hf:(Prod.fst z).found=true:=by have h9:=hd16;revert h9;cases (Prod.fst z).found<;>simp
 obtain⟨e1,hmu⟩:=Ct.X4 hq6 hf
 have hT2:=hT.trans (Ct.CV (f:=Ct.J' t (N+1) c k) hq6 (qF (show (!z.1.found)=false by rw[hf];rfl) rfl))
 rw[e1]at h hT2
 obtain⟨cz,rfl⟩:∃d,c=d+1:=⟨c-1,by omega⟩
 exact⟨(z.2,(Ct.wr (k+1)),cz,vz4,bz5),⟨rfl,rfl,trivial⟩,⟨(h.fr (.c r3 (.c r0 (.c r0 (.c r1 (.c r0 .n)))))),hT2,hok2,by(try dsimp only);omega⟩,hmu⟩
theorem P7(S:dN)[Um S](hd:S.d+1<=346)(hd2:S.d+2<=346)(pb cb ib:Nat)(t:Ct.bC)(N:Nat)(n:Nat):n<=N->n<=1000000->JW S pb cb ib t N n:=by
 induction n using Nat.strongRecOn with
 |ind n ih=>
  intro hn hb c k it v b B w L s h hs hok hc
  exact F8 S hd hd2 pb cb ib t N n hn hb (λj hj=>ih j hj (by omega) (by omega)) c k it v b s h hs hok hc
theorem RR(S:dN)(h:SH B w (L)):
  Calls prog 41 #[S.v] w λe w'=>∃pb,e=.returned (.iface 130 (QQ pb))/\SH B w' (Xp S pb 0 false::L):=by
 refine Ea (args:=[_]) func41 rfl ntmps41 rfl ?_
 refine sq<|rg<|st (sg rfl)<|xe<|nx<|sq<|rg<|st (mv rfl)<|st (bd [S.v,.int .i64 0,↑false] U3 rfl (by kernel_rfl))<|sf (bx h rfl rfl)<|?_
 rintro _ w ⟨b1,rfl,h⟩
 refine st (mi S6 rfl rfl)<|st (sg rfl)<|xe<|nx<|rt<|?_
 refine rr (jP results41 rfl)<|⟨b1,rfl,h⟩
theorem OL(S:dN)[Um S](hd:S.d+1<=346)(hd2:S.d+2<=346)(t:Ct.bC)(N n c:Nat)(hn:n<=N)(hb:n<=1000000)(hc:Ct.Bj n<=c)(cb0 cb1:Nat)(s:Ct.St)(h:SH B w (rb cb0 [S.v] 86::rb cb1 (cU t) 26::S.a s::L))(hs:Ct.Rm 60 s):
  Calls prog 40 #[↑cb0,↑cb1] w λe w'=>CP S Mi n B (Ct.wU t (N+1) (c+1) 0 {}) s L e w':=by
 refine Ea (args:=[_,_]) func40 rfl ntmps40 rfl ?_
 refine sq<|rg<|sf (al h nN)<|?_
 rintro _ w ⟨b1,rfl,h⟩
 refine xe<|nx<|sq<|dZ [1,5,2,6,9,10,12] (by kernel_rfl) h (.c r1 (.c r1 .n)) λw h=>tk (λW H=>ld qH rfl (H.B8 a0 rfl))<|tk (λW H=>gJ rfl (dK (H.rb a1)) oB)<|cs (ca eF rfl) ((RR S (h.fr .n)).mono ?_)
 rintro _ w ⟨pb,rfl,h⟩
 refine⟨_,rfl,h.hs (.c r2 (.c r2 .n)),?_⟩
 refine cs (ca eF rfl) ((W6 t (h.fr .n)).mono ?_)
 rintro _ w ⟨ib,rfl,h⟩
 refine⟨_,rfl,h.hs (.c r3 (.c r3 .n)),?_⟩
 refine tk (λW H=>bd [.iface 130 ↑pb,↑ib,.int .i64 0] aBf rfl (by kernel_rfl))<|ff (bx h rfl rfl)<|?_
 rintro _ w ⟨b2,rfl,h⟩
 refine⟨h.hs (.c r4 (.c r4 .n)),?_⟩
 refine ef (sg rfl) (h.hs (.c r4 (.c r4 .n)))<|xz<|nx<|sq<|rg<|st (mv rfl)<|cl (ca eF rfl) ((P7 S hd hd2 pb b2 ib t N n hn hb c 0 {} 0 false _ _ _ s (h.fr (.c r0 (.c r0 (.c r0 (.c r3 .n))))) hs (Ct.XB n (by omega)) (by rw[Ct.aAx];omega)).mono ?_)
 rintro _ w ⟨s3,t4,c5,hq6,rfl,h⟩
 refine⟨_,rfl,?_⟩
 refine sf (so h rfl rfl rfl iR (eO _) (.r (.r (.r (.r (.r (.r (.r (.r (.r (.r (.r (.r (.r (.r .d)))))))))))))) u2)<|?_
 rintro _ w h
 refine xe<|nx<|rt<|?_
 refine rr (bP results40 rfl (h.b a2) iO)<|?_
 exact fI (hq6) (h.fr (.c r2 (.c r2 (.c r2 .n)))).drop.drop.drop
theorem LG(S:dN)(n:Nat)(s:Ct.St)(h:SH B w (S.a s::L)):
  Calls prog 39 #[] w λe w'=>CP S Mi n B (.ret {err:=7}) s L e w':=by
 refine Ea (args:=[]) func39 rfl ntmps39 rfl ?_
 refine sq<|rg<|sf (al h nN)<|?_
 rintro _ w ⟨b1,rfl,h⟩
 refine xe<|nx<|sq<|rg<|st (bd [.int .i64 7,↑false,.int .u64 0,.string .empty,.int .i64 0,.int .i64 0,.int .i64 0,↑false] Oo rfl (by kernel_rfl))<|cl (ca eF rfl) ((gV ({err:=7}:Ct.Result) (h.fr .n)).mono ?_)
 rintro _ w ⟨rfl,h⟩
 refine⟨_,rfl,?_⟩
 refine sf (so h rfl rfl rfl iR (eO _) (.r (.r (.r (.r (.r (.r (.r (.r (.r (.r (.r (.r (.r (.r .d)))))))))))))) u0)<|?_
 rintro _ w h
 refine xe<|nx<|rt<|?_
 refine rr (bP results39 rfl (h.b a0) iO)<|?_
 have h:=kG (S:=S) (n:=n) (ρ:=id) (M:=LJ) ({err:=7}:Ct.Result) (SH.is (l:=[]) h)
 exact fI (rfl) (h.fr (.c r1 .n)).drop
theorem i6(S:dN)[Um S](hd:S.d+1<=346)(hd2:S.d+2<=346)(t:Ct.bC)(N n c:Nat)(hn:n<=N)(hb:n<=1000000)(hc:Ct.Bj n<=c)(s:Ct.St)(h:SH B w (S.a s::L))(hs:Ct.Rm 60 s)(hro:t.readOnly=true):
  Calls prog 17 #[S.v,.agg [↑t.root,↑t.readOnly].toArray] w λe w'=>∃tb s' u,(Ct.Fi t (N+1) (c+1)).head s=(s',u)/\e=.returned (.pointer (some ⟨tb,0,none⟩))/\SH B w' (fD S Mi n tb u 0::S.a s'::L):=by
 refine Ea (args:=[_,_]) func17 rfl ntmps17 rfl ?_
 refine sq<|rg<|sf (bx h rfl rfl)<|?_
 rintro _ w ⟨b1,rfl,h⟩
 refine sf (bx h rfl rfl)<|?_
 rintro _ w ⟨b2,rfl,h⟩
 refine st (sg rfl)<|xe<|nx<|sq<|sq<|rg<|st (fa xW rfl)<|st (ld xN rfl (h.c a0 rfl))<|st (nt rfl)<|xe<|nx<|cf rfl (sZ hro)<|sk<|nx<|sq<|?_
 have h:=SH.kX (h.fr (.c r1 .n))
 have h:=SH.kX (h.fr (.c r1 .n))
 refine rg<|st (ld qH rfl (h.B8 a1 rfl))<|st (mf rfl rfl)<|?_
 have h:=h.fr (.c r1 (.c r0 .n))
 have h:=YZ (S:=S) (F:=Mi) (n:=n) (j:=60) (args:=qI) (k:=λ_:Unit=>Ct.wU t (N+1) (c+1) 0 {}) (v:=(.fn 40 [] [↑b1,↑b2])) [rb b1 [S.v] 86,rb b2 ([↑t.root,↑t.readOnly]) 26] h λB' w' L' s' x' h' hs'=>pR eF (OL S hd hd2 t N n c hn hb hc b1 b2 s' h' hs')
 refine cl (ca eF rfl) ((Vz S Mi n (.fn 40 [] [↑b1,↑b2]) (λ_:Unit=>Ct.wU t (N+1) (c+1) 0 {}) s (h.fr (.c r0 (.c r0 .n))) hs).mono ?_)
 rintro _ w ⟨tb3,s4,uz5,hq6,rfl,h⟩
 refine⟨_,rfl,?_⟩
 refine st (sg rfl)<|xe<|nx<|rt<|?_
 refine rr (jP results17 rfl)<|⟨tb3,s4,uz5,by unfold Ct.Fi;rw[hro];exact hq6,rfl,h⟩
theorem SU(S:dN)[Um S](hd:S.d+1<=346)(hd2:S.d+2<=346)(t:Ct.bC)(N n c:Nat)(hn:n<=N)(hb:n<=1000000)(hc:Ct.Bj n<=c)(s:Ct.St)(h:SH B w (S.a s::L))(hs:Ct.Rm 60 s)(hro:t.readOnly=false):
  Calls prog 17 #[S.v,.agg [↑t.root,↑t.readOnly].toArray] w λe w'=>∃tb s' u,(Ct.Fi t (N+1) (c+1)).head s=(s',u)/\e=.returned (.pointer (some ⟨tb,0,none⟩))/\SH B w' (fD S Mi n tb u 0::S.a s'::L):=by
 refine Ea (args:=[_,_]) func17 rfl ntmps17 rfl ?_
 refine sq<|rg<|sf (bx h rfl rfl)<|?_
 rintro _ w ⟨b1,rfl,h⟩
 refine sf (bx h rfl rfl)<|?_
 rintro _ w ⟨b2,rfl,h⟩
 refine st (sg rfl)<|xe<|nx<|sq<|sq<|rg<|st (fa xW rfl)<|st (ld xN rfl (h.c a0 rfl))<|st (nt rfl)<|xe<|nx<|ct rfl (tJ hro)<|sq<|rg<|st (ld qH rfl (h.c a1 rfl))<|?_
 have h:=h.fr .n
 have h:=YZ (S:=S) (F:=Mi) (n:=n) (j:=60) (args:=qI) (k:=λ_:Unit=>(.ret {err:=7}:Ct.I Ct.Result)) (v:=(.fn 39 [] [])) [] h λB' w' L' s' x' h' hs'=>pR eF (LG S n s' h')
 refine cl (ca eF rfl) ((Vz S Mi n (.fn 39 [] []) (λ_:Unit=>(.ret {err:=7}:Ct.I Ct.Result)) s (h.fr (.c r0 (.c r2 .n))) hs).mono ?_)
 rintro _ w ⟨tb3,s4,uz5,hq6,rfl,h⟩
 refine⟨_,rfl,?_⟩
 refine st (sg rfl)<|xe<|nx<|rt<|tr<|?_
 refine rr (jP results17 rfl)<|⟨tb3,s4,uz5,by unfold Ct.Fi;rw[hro];exact hq6,rfl,(h.fr (.c r2 (.c r2 .n))).drop.drop⟩
theorem JY(S:dN)[Um S](hd:S.d+1<=346)(hd2:S.d+2<=346)(t:Ct.bC)(N n c:Nat)(hn:n<=N)(hb:n<=1000000)(hc:Ct.Bj n<=c)(s:Ct.St)(h:SH B w (S.a s::L))(hs:Ct.Rm 60 s):
  Calls prog 17 #[S.v,.agg (cU t).toArray] w λe w'=>∃tb s' u,(Ct.Fi t (N+1) (c+1)).head s=(s',u)/\e=.returned (.pointer (some ⟨tb,0,none⟩))/\SH B w' (fD S Mi n tb u 0::S.a s'::L):=by
 cases hro:t.readOnly with
 |true=>exact i6 S hd hd2 t N n c hn hb hc s h hs hro
 |false=>exact SU S hd hd2 t N n c hn hb hc s h hs hro
end Go.Q9
end
section
namespace Go.Ct
def szC:Nat:=2000000000000000
def PC:Nat->St×I Result
 |0=>(Fi wkT 1001 (szC+1)).head WY
 |i+1=>(PC i).2.step (PC i).1
theorem U':∀i,i<3->(PC i).2.ended.isSome=false:=by decide+kernel
theorem XP:(PC 3).2.ended.isSome=true:=by decide+kernel
def szR:Result:=(PC 3).2.ended.getD {}
theorem T':(PC 3).2=.ret szR:=L7 XP _
theorem Z7:szR={count:=1}:=by decide+kernel
set_option maxRecDepth 100000
theorem N':∀i,i<4->∀n∈(PC i).1.aG,n.Fit (PC i).1.aG.length:=by decide+kernel
theorem V1:∀i,i<4->(PC i).1.size<=1000:=by decide+kernel
theorem aB6(i:Nat)(h:i<4):Rm 101 (PC i).1:=⟨N' i h,by have:=V1 i h;unfold cN;omega⟩
theorem W1:Bj 1000<=szC:=by decide+kernel
end Go.Ct
end
section
namespace Go.Q9
open Go.Proofs.Tryz
open Go.E
end Go.Q9
end
section
namespace Go.Q9
open Go.Proofs.Tryz
open Go.RowKit Go.E
attribute [local irreducible] gB wpS
variable{B w:World}{L:List As}
theorem aBd(ab:Nat)(h:SH B w ((cV ab).a Ct.WY::L)):
  Calls prog 17 #[(cV ab).v,.agg (cU Ct.wkT).toArray] w λe w'=>∃tb,e=.returned (.pointer (some ⟨tb,0,none⟩))/\SH B w' (fD (cV ab) Mi 1000 tb (Ct.PC 0).2 0::(cV ab).a (Ct.PC 0).1::L):=by
 refine(JY (cV ab) (by show 1+1<=346;decide) (by show 1+2<=346;decide) Ct.wkT 1000 1000 Ct.szC (bD _) (by decide) Ct.W1 Ct.WY h Ct.XR).mono ?_
 rintro e w' ⟨tb,s',u,hq,rfl,h⟩
 have e0:Ct.PC 0=(s',u):=hq
 rw[e0]
 exact⟨tb,rfl,h⟩
theorem aA4(ab tb:Nat)(h:SH B w (fD (cV ab) Mi 1000 tb (Ct.PC 0).2 0::(cV ab).a (Ct.PC 0).1::L)):Calls prog 34 #[↑tb,.int .i64 9] w λe w'=>e=.returned (.int .i64 3)/\SH B w' (fD (cV ab) Mi 997 tb (.ret Ct.szR) 3::(cV ab).a (Ct.PC 3).1::L):=by
 refine(aB2 (cV ab) (AB ab) 1000 tb 0 3 9 Ct.PC h (λi=>rfl) Ct.U' Ct.XP (by decide) (by decide) (λi hi=>Ct.aB6 i (by omega)) (by decide) (by decide)).mono ?_
 rintro e w' ⟨rfl,h⟩
 rw[Ct.T']at h
 exact⟨rfl,h⟩
theorem aAw:Cn (Mf (id Ct.szR)) [.int .i64 0,↑false,.int .u64 0,.string .empty,.int .i64 1,.int .i64 0,.int .i64 0,↑false]=true:=by rw[Ct.Z7];simp[Cn,WN,Mf]
theorem LQ(h:SH B w (Ba::L)):
  Calls prog 16 #[] w λe w'=>e=.returned ↑true/\SH B w' (Ba::L):=by
 obtain⟨g,hW⟩:=Ct.d5
 have hcok:Ct.kZ g Ct.WQ:=hW.Gz (c:=Ct.WQ) (by decide) (by decide) (List.mem_singleton.2 rfl) (λ_=>rfl)
 have hst:=Ct.gW (c:=Ct.WQ) hW.fit (by decide)
 refine Ea (args:=[]) func16 rfl ntmps16 rfl ?_
 refine sq<|rg<|st (sg rfl)<|xe<|nx<|sq<|rg<|cl (ca eF rfl) ((EG (h.fr .n)).mono ?_)
 rintro _ w ⟨mb,rfl,h⟩
 refine⟨_,rfl,?_⟩
 refine st (sg rfl)<|xe<|nx<|sq<|rg<|st (mv rfl)<|cl (ca eF rfl) ((l8 mb (h.fr (.c r0 .n))).mono ?_)
 rintro _ w ⟨rfl,h⟩
 refine⟨_,rfl,?_⟩
 refine sf (al h NG)<|?_
 rintro _ w ⟨b1,rfl,h⟩
 refine sf (so h rfl rfl rfl xK rfl (.r (.r .d)) u0)<|?_
 rintro _ w h
 refine xe<|nx<|sq<|rg<|st (mv rfl)<|st (gJ rfl (dK (h.b a0)) oB)<|st (bd [.int .i64 8,↑Ct.QD.root,↑Ct.QD.readOnly,.int .i64 0,.int .i64 0,.int .i64 0,.int .i64 0,.int .u64 0,.int .u64 0,.string (⟨#[97]⟩),.int .u64 8,.int .u64 0,.int .i64 0,↑false,↑false,.slice none 0 0,.slice none 0 0,.int .i64 0,↑false,.int .u64 0,.string .empty,.int .i64 0,.int .i64 0,.int .i64 0,↑false] Lv rfl (by kernel_rfl))<|cl (ca eF rfl) ((rW mb (Ct.mG {}).1 Ct.WQ Ct.FU (h.fr (.c r1 .n)) hst.1 hst.2 (by decide) (by decide) Ct.GR (by decide) (by decide)).mono ?_)
 rintro _ w ⟨xb,rfl,h,k⟩
 have hl:=Ct.uM.start hW.gw hW.PI hW.fit hcok (by decide) Ct.GR k
 refine⟨_,rfl,?_⟩
 refine st (sg rfl)<|xe<|nx<|sq<|bk<|?_
 refine lp (α:=Nat) (λρ=>(.c 1 ↑mb (.c 2 ↑b1 (.c 3 ↑xb .n)))) (λρ w=>SH B w (XA xb mb (Ct.XO ρ)::bl b1 (cU Ct.QD) 26::Ba::L)/\(ρ<=8)/\(Ct.uM g (Ct.mG {}).1.size ρ (Ct.XO ρ))) (λρ=>8-ρ) 0 ⟨rfl,rfl,rfl,trivial⟩ ⟨h,(Xe _),hl⟩ ?_
 rintro i w ⟨h,hi,hl⟩
 refine sq<|sq<|rg<|st (mv rfl)<|cl (ca eF rfl) ((vH xb mb (Ct.XO i) (h.fr (.c r0 .n))).mono ?_)
 rintro _ w ⟨rfl,h⟩
 refine⟨_,rfl,?_⟩
 refine st (nt rfl)<|xe<|nx<|?_
 rcases mD (!(Ct.XO i).e.done)with hd2|hd2
 ·have hd3:(Ct.XO i).e.done=false:=(lC _).mp hd2
  refine ct rfl hd2<|sk<|nx<|bk<|?_
  have hi8:i+1<=8:=by
   rcases PQ i 8 with hz|hz
   ·exact hz
   ·obtain rfl:i=8:=by omega
    have h1:=hd3
    rw[Ct.TZ]at h1;cases h1
  have h1:(Ct.mG {}).1.size<=1000:=by decide
  have hrd:(Ct.mG {}).1.size+199*i+120<=Ct.room:=by unfold Ct.room;omega
  refine rg<|st (mv rfl)<|cl (ca eF rfl) ((Pq xb mb (Ct.XO i) Ct.FU (h.fr (.c r0 .n)) hd3 (hl.ready hrd).1 (hl.ready hrd).2 (by decide) hl.call.1 hl.call.2.1 hl.call.2.2.1 hl.call.2.2.2).mono ?_)
  rintro _ w ⟨rfl,h,k⟩
  refine⟨_,rfl,?_⟩
  refine xe<|bn<|nx<|?_
  exact⟨((i+1)),⟨rfl,rfl,rfl,trivial⟩,⟨h,hi8,(hl.step hd3 (by unfold Ct.Cx;omega) k)⟩,by(try dsimp only);omega⟩
 ·have hd4:(Ct.XO i).e.done=true:=(AD _).mp hd2
  refine cf rfl hd2<|xt<|tx<|tx<|be<|nx<|sq<|?_
  have hi8:i=8:=by
   rcases PQ i 8 with hz|hz
   ·have h1:=hd4
    rw[Ct.RG i hz]at h1;cases h1
   ·omega
  subst hi8
  have h:=SH.Zh (h.fr (.c r0 .n))
  have h:SH B w (cR mb Ct.AQ::bl b1 (cU Ct.QD) 26::Ba::L):=h
  obtain⟨⟨pn,cn,pc,cc,zs⟩,hz0,h⟩:=h.mo
  have h:SH B w (bl mb ([.slice pn zs.length cn,.slice pc Ct.AQ.cells.length cc,↑(Ct.AQ.gen:Int),↑(Ct.AQ.acc:Int)]) 69::aU 112 14 (.slice pn zs.length cn) zs.length (zs.flatMap cB)::aU 45 1 (.slice pc Ct.AQ.cells.length cc) Ct.AQ.cells.length (Ct.AQ.cells.map (Value.int .i64))::bE zs::bl b1 (cU Ct.QD) 26::Ba::L):=h
  have hzs:zs.map Prod.fst=aW Ct.AQ:=hz0
  clear hz0
  have hsz:Ct.AQ.size<=100000000000:=by have:=Ct.QB;omega
  refine rg<|st (mv rfl)<|st (nc rfl rfl)<|st (fa Mk rfl)<|st (gJ (cs:=[.slice pn zs.length cn,.slice pc Ct.AQ.cells.length cc,↑(Ct.AQ.gen:Int)]) rfl (eP (h.b a0) 0 rfl) aBb)<|cl (ca eF rfl) ((OT Ct.AQ zs pn pc cn cc (h.fr (.c r1 (.c r1 (.c r1 .n)))) hzs Ct.BP (lS Ct.TW hsz) hsz).mono ?_)
  rintro _ w ⟨ab,rfl,h⟩
  refine⟨_,rfl,?_⟩
  refine st (mv rfl)<|st (xr rfl rfl)<|st (xr rfl rfl)<|st (sg rfl)<|st (sg rfl)<|xe<|nx<|sq<|sq<|rg<|st (mv rfl)<|st (i4 VR rfl rfl)<|xe<|nx<|cF rfl<|sk<|nx<|sq<|rg<|st (mv rfl)<|st (mi VR rfl rfl)<|st (fa HN rfl)<|st (ld vA rfl (h.c a5 rfl))<|st (bd [↑Ct.QD.root,↑true] aAk rfl (by kernel_rfl))<|?_
  have h:=LX (h.fr (.c r0 (.c r5 .n)))
  refine cl (ca eF rfl) ((aBd ab (h.fr (.c r0 .n))).mono ?_)
  rintro _ w ⟨tb,rfl,h⟩
  refine⟨_,rfl,?_⟩
  refine st (sg rfl)<|xe<|nx<|sq<|rg<|st (mv rfl)<|st (bpn P8 rfl rfl)<|st (mv rfl)<|gT rfl rfl rfl<|st (mv rfl)<|gT rfl rfl rfl<|cl (ca eF rfl) ((aA4 ab tb (h.fr (.c r0 (.c r0 .n)))).mono ?_)
  rintro _ w ⟨rfl,h⟩
  refine⟨_,rfl,?_⟩
  refine gT rfl rfl rfl<|st (bi rfl rfl rfl)<|st (pT rfl rfl rfl)<|st (mv rfl)<|gT rfl rfl rfl<|st (mv rfl)<|gT rfl rfl rfl<|cl (ca eF rfl) ((BS (cV ab) 997 tb 3 Ct.szR (h.fr (.c r0 .n))).mono ?_)
  rintro _ w ⟨rfl,h⟩
  refine⟨_,rfl,?_⟩
  refine gT rfl rfl rfl<|st (bd [.int .i64 0,↑false,.int .u64 0,.string .empty,.int .i64 1,.int .i64 0,.int .i64 0,↑false] Oo rfl (by kernel_rfl))<|gT rfl rfl rfl<|st (n5 P9 rfl rfl rfl rfl)<|st (pT rfl rfl rfl)<|st (sg rfl)<|xe<|nx<|rt<|?_
  refine rr (jP results16 rfl)<|?_
  have h:=VB (h.fr (.c r1 .n))
  exact⟨by rw[aAw],(h.fr (.c r0 (.c r1 (.c r1 (.c r1 (.c r1 (.c r1 (.c r1 .n)))))))).drop.drop.drop.drop.drop.drop.drop⟩
end Go.Q9
end
section
namespace Go.Q9
open Go.Proofs.Tryz
open Go.RowKit Go.E
variable{B w:World}{L:List As}
theorem V5(ab mb tb xb pb n:Nat)(g:Ct.Ga)(s:Ct.St)(c:Ct.Call)(h:SH B w (eN (cV ab) n tb ((Ct.mS c Ct.FU).head s).2 0::(cV ab).a ((Ct.mS c Ct.FU).head s).1::XA xb mb (Ct.bX (Ct.bY c Ct.FU) 0 ⟨{call:=c},s⟩)::aU 55 2 (.slice (some ⟨pb,0,none⟩) 1 1) 1 [↑tb,↑xb]::L))
  (hl:Ct.Ub 0 g s []) (hs:s.size+1000<=38000000000) (hn:400<=n) (hc:Ct.kZ g c) (hm:c.aI<18446744073709551616) (hk:c.key.size<=9223372036854775807) (hok:Ct.Ok 50 (Ct.bX (Ct.bY c Ct.FU) 0 ⟨{call:=c},s⟩)):
  Calls prog 9 #[↑ab,↑mb,.slice none 0 0,.slice (some ⟨pb,0,none⟩) 1 1] w λe w'=>∃s',Ct.eK s'/\s'.size<=38100000000/\e=.returned ↑true/\SH B w' (cR mb s'::(cV ab).a s'::L):=by
 obtain⟨g',u,h1,_,_,hL⟩:=hl.add (tb:=tb) (xb:=xb) hs hc hm hk hok
 rw[h1]at h
 have h:=SH.n0 hn h
 have h:=ZR (ys:=[]) (xb:=xb) (e:=(Ct.bX (Ct.bY c Ct.FU) 0 ⟨{call:=c},s⟩).e) ((i9 (S:=cV ab) (n:=400) h).fr (.c r1 .n))
 have h:=SH.VL (zs:=[]) ((SH.VH (mb:=mb) (h.fr (.c r2 .n))).fr (.c r1 .n))
 have h:=SH.fz (h.fr (.c r4 .n))
 have h:=SH.GZ 1 h
 refine(LK ab mb g' _ _ [(tb,xb)] [] (some ⟨pb,0,none⟩) none 1 0 (h.fr (.c r4 (.c r2 (.c r2 (.c r2 (.c r1 .n)))))) hL rfl (by show 0<1;decide) (by show 1<=100;decide)).mono ?_
 rintro e w' ⟨s',h1,h2,rfl,h⟩
 exact⟨s',h1,h2,rfl,h⟩
end Go.Q9
end
section
namespace Go.Q9
open Go.Proofs.Tryz
open Go.RowKit Go.E
theorem L8{β:Type}{P:Program}{S:Ct.St->As}{ok:Ct.St->Prop}{F F':β->Cc->As}(hF:∀b c w O R,(F b c).p w O R->(F' b c).p w O R):∀(n:Nat) (t:Ct.I β) (c:Cc) (w:World) (O R:Nat->Prop),(dH P S ok F n t c).p w O R->(dH P S ok F' n t c).p w O R:=by
 intro n
 induction n with
 |zero=>
  intro t c w O R h
  cases t with
  |ret b=>exact hF b c w O R h
  |_=>exact h
 |succ n ih=>
  intro t c w O R h
  cases t with
  |ret b=>exact hF b c w O R h
  |load a k=>obtain⟨v,h⟩:=h;exact⟨v,Ae h λ_ _ h=>By ih (λ_ h=>h) h⟩
  |eA a o x k=>obtain⟨v,h⟩:=h;exact⟨v,Ae h λ_ _ h=>By ih (λ_ h=>h) h⟩
  |_=>exact h
theorem U6(r:Ct.Result)(c:Cc)(w:World)(O R:Nat->Prop)(h:(Mi r c).p w O R):(dW r c).p w O R:=by
 obtain⟨Os,Rs,h1,_,h3,h4⟩:=h
 have a:=h1 0 _ rfl
 obtain⟨_,_,_,_,b3,b4⟩:=h1 1 _ rfl
 have no:∀{X:Nat->Nat->Prop} {k:Nat},¬∃i,i<([]:List As).length/\X i k:=λ⟨i,hi,_⟩=>Nat.not_lt_zero i hi
 refine⟨a.1,λk hk=>?_,λk hk=>?_⟩
 ·obtain⟨i,hi,hk⟩:=(h3 k).1 hk
  match i,hi,hk with
  |0,_,hk=>exact a.2.1 k hk
  |1,_,hk=>exact no ((b3 k).1 hk)
  |n+2,hi,_=>exact absurd hi (by show ¬n+2<2;omega)
 ·obtain⟨i,hi,hk⟩:=(h4 k).1 hk
  match i,hi,hk with
  |0,_,hk=>exact a.2.2 k hk
  |1,_,hk=>exact no ((b4 k).1 hk)
  |n+2,hi,_=>exact absurd hi (by show ¬n+2<2;omega)
variable{B w:World}{L:List As}
theorem z'{S:dN}{n tb k:Nat}{u:Ct.I Ct.Result}(h:SH B w (fD S Mi n tb u k::L)):SH B w (eN S n tb u k::L):=by
 obtain⟨c,h⟩:=SH.ex (f:=λc:Cc=>Go.E.se [bl tb (oI S c k false) 123,nE S Mi n u c]) h
 have h:=(SH.se h).fr (.c r1 .n)
 have h:=h.imp (A':=nE S dW n u c) λO R=>L8 U6 n u c _ O R
 exact SH.ti (h.fr (.c r1 .n))
end Go.Q9
end
