/- Parts of a proof: Te, We, Q8. -/
import Derived.Test.YtlpbjpanggcbbaaGreatW36
set_option linter.unusedVariables false
set_option linter.unusedSimpArgs false
set_option maxRecDepth 100000
set_option maxHeartbeats 4000000
section
namespace Go.Q9
open Go.Proofs.Tryz
open Go.RowKit Go.E
attribute [local irreducible] gB wpS Go.E.X XS C jU kP fin Y U F Ca jT bl rb aU bV ex ce pu sK gK bK zK gM fO dH
def gQ(b:Nat)(l:List Int):As:=ex λi:Nat=>Oe b l i
variable{B w:World}{L:List As}
theorem fB(b:Nat)(l:List Int)(n:Int)(h:SH B w (gQ b l::L))(h0:0<n)(h1:n<=9223372036854775807):
  Calls prog 22 #[↑b,↑n] w λe w'=>∃j:Nat,(j:Int)<n/\e=.returned ↑(j:Int)/\SH B w' (gQ b l::L):=by
 obtain⟨i,h⟩:=SH.ex h
 refine(OO b l i n h h0 h1).mono ?_
 rintro _ w ⟨rfl,h⟩
 have nx:=OZ l i h0
 obtain⟨j,hj⟩:=RD nx.1
 exact⟨j,by omega,by rw[hj],SH.dU _ h⟩
theorem LV(b:Nat)(l:List Int)(h:SH B w (gQ b l::L)):
  Calls prog 21 #[↑b] w λe w'=>∃r:Bool,e=.returned ↑r/\SH B w' (gQ b l::L):=by
 obtain⟨i,h⟩:=SH.ex h
 refine(NV b l i h).mono ?_
 rintro _ w ⟨rfl,h⟩
 exact⟨_,rfl,SH.dU _ h⟩
theorem NS(l:List Int)(p:Option Addr)(c:Nat)(h:SH B w (bV 1 (.slice p l.length c) l.length (l.map (Value.int .i64))::L)):
  Calls prog 7 #[.slice p l.length c] w λe w'=>∃b,e=.returned (.pointer (some ⟨b,0,none⟩))/\SH B w' (gQ b l::L):=by
 refine(SD l p c h).mono ?_
 rintro _ w ⟨b,rfl,h⟩
 exact⟨b,rfl,SH.dU _ h⟩
structure Ks where
 k:ByteArray:=.empty
structure Ms where
 m:Nat:=0
def G6(s:Ks):List Value:=[↑s.k]
def G3(s:Ms):List Value:=[.int .u64 (s.m:Int)]
theorem RS(s:Ks):(G6 s).length=1:=rfl
theorem QY(s:Ms):(G3 s).length=1:=rfl
def j7:List Ks:=[{k:=⟨#[97]⟩},{k:=⟨#[98]⟩},{k:=⟨#[99]⟩},{k:=⟨#[100]⟩},{k:=⟨#[97,98]⟩},{k:=.empty},{k:=⟨#[98,48]⟩},{k:=⟨#[107,101,121]⟩}]
def VT:List Ms:=[{m:=18446744073709551615},{m:=0},{m:=1},{m:=64},{m:=63},{m:=4095},{m:=9223372036854775808},{m:=4032},{m:=3458764513820540928},{m:=18446744073709551615}]
theorem Jt{α:Type}{p:α->Prop}{d:α}(hd:p d):∀{l:List α},(∀x,x∈l->p x)->∀j,p (l.getD j d)
 |[],_,_=>hd
 |x::l,h,0=>h x (.head _)
 |x::l,h,j+1=>Jt hd (λy hy=>h y (.tail _ hy)) j
theorem OK(j:Nat):(j7.getD j {}).k.size<=8:=Jt (p:=λs:Ks=>s.k.size<=8) (by decide) (by decide) j
theorem RB(j:Nat):(VT.getD j {}).m<18446744073709551616:=Jt (p:=λs:Ms=>s.m<18446744073709551616) (by decide) (by decide) j
theorem VQ(b:Nat)(l:List Int)(h:SH B w (gQ b l::L)):
  Calls prog 26 #[↑b] w λe w'=>∃k:ByteArray,k.size<=8/\e=.returned (.string k)/\SH B w' (gQ b l::L):=by
 refine bZ func26 ntmps26 h λw h=>?_
 refine sf (bu [.string (⟨#[97]⟩),.string (⟨#[98]⟩),.string (⟨#[99]⟩),.string (⟨#[100]⟩),.string (⟨#[97,98]⟩),.string .empty,.string (⟨#[98,48]⟩),.string (⟨#[107,101,121]⟩)] h fR.h Ss.h rfl (by kernel_rfl) rfl (by decide) (by decide)) ?_
 rintro _ w ⟨b1,rfl,h⟩
 refine go h λw h=>?_
 have h:SH B w (aU 9 1 (.slice (some ⟨b1,0,none⟩) 8 8) 8 (j7.flatMap G6)::gQ b l::L):=h
 refine Pv (fB _ _ _ h.to (by omega) (by omega)) λj2 hj3 w h=>?_
 refine st (ld One.h rfl ((h.ro a1).x RS (by decide) (by show _<8;omega) {} 0 _ rfl))<|go h λw h=>?_
 exact rz ⟨_,OK _,rfl,h.to⟩
theorem WS(b:Nat)(l:List Int)(h:SH B w (gQ b l::L)):
  Calls prog 19 #[↑b] w λe w'=>∃m:Nat,m<18446744073709551616/\e=.returned (.int .u64 (m:Int))/\SH B w' (gQ b l::L):=by
 refine bZ func19 ntmps19 h λw h=>?_
 refine sf (bu [.int .u64 18446744073709551615,.int .u64 0,.int .u64 1,.int .u64 64,.int .u64 63,.int .u64 4095,.int .u64 9223372036854775808,.int .u64 4032,.int .u64 3458764513820540928,.int .u64 18446744073709551615] h fR.h Ss.h rfl (by kernel_rfl) rfl (by decide) (by decide)) ?_
 rintro _ w ⟨b1,rfl,h⟩
 refine go h λw h=>?_
 have h:SH B w (aU 30 1 (.slice (some ⟨b1,0,none⟩) 10 10) 10 (VT.flatMap G3)::gQ b l::L):=h
 refine Pv (fB _ _ _ h.to (by omega) (by omega)) λj2 hj3 w h=>?_
 refine st (ld One.h rfl ((h.ro a1).x QY (by decide) (by show _<10;omega) {} 0 _ rfl))<|go h λw h=>?_
 exact rz ⟨_,RB _,rfl,h.to⟩
end Go.Q9
end
section
namespace Go.E
open Go.Q9 Go.RowKit
variable{B w:World}{L:List As}
theorem Tu{α β:Type}{f:α->β}{M:List β}:∀{zs:List α} {i:Nat} (hi:i<zs.length),tY (zs.map f++M) (f zs[i]) ((zs.eraseIdx i).map f++M)
 |z::zs,0,_=>.z
 |z::zs,i+1,hi=>.s (Tu (by simpa using hi))
theorem zF{α β:Type}{f:α->β}{M:List β}{a:α}:∀{zs:List α} {i:Nat} (_:i<zs.length),tY ((zs.set i a).map f++M) (f a) ((zs.eraseIdx i).map f++M)
 |_::zs,0,_=>.z
 |_::zs,i+1,hi=>.s (zF (by simpa using hi))
theorem Bn{α:Type}{a:α}{M:List α}:∀{l:List α},tY (l++a::M) a (l++M)
 |[]=>.z
 |_::_=>.s Bn
def Jm(mb:Nat)(z:Nat×Ct.Ex):As:=VE z.1 mb z.2
def eV(mb:Nat)(zs:List (Nat×Ct.Ex)):As:=Go.E.se (zs.map (Jm mb))
theorem SH.ET{mb:Nat}{s:Ct.St}{zs:List (Nat×Ct.Ex)}{i:Nat}(hi:i<zs.length)(h:SH B w (eV mb zs::cR mb s::L)):SH B w (XA zs[i].1 mb ⟨zs[i].2,s⟩::eV mb (zs.eraseIdx i)::L):=by
 have h1:=(SH.se h).fr (.c (Tu hi) .n)
 have h2:SH B w ((zs.eraseIdx i).map (Jm mb)++Jm mb zs[i]::cR mb s::L):=SH.back (A:=Jm mb zs[i]) h1 Bn
 have h3:=(SH.is h2).fr (.c r1 (.c r1 .n))
 exact SH.is (l:=[VE zs[i].1 mb zs[i].2,cR mb s]) h3
theorem SH.Ut{mb:Nat}{s:Ct.St}{zs:List (Nat×Ct.Ex)}{i b:Nat}{e:Ct.Ex}(hi:i<zs.length)(h:SH B w (XA b mb ⟨e,s⟩::eV mb (zs.eraseIdx i)::L)):SH B w (eV mb (zs.set i (b,e))::cR mb s::L):=by
 have h1:=(SH.se (l:=[VE b mb e,cR mb s]) h).fr (.c r2 .n)
 have h2:SH B w (Jm mb (b,e)::((zs.eraseIdx i).map (Jm mb)++cR mb s::L)):=(SH.se h1).fr (.c Bn .n)
 exact SH.is (l:=(zs.set i (b,e)).map (Jm mb)) (SH.back (A:=Jm mb (b,e)) h2 (zF hi))
theorem SH.VH{mb:Nat}(h:SH B w L):SH B w (eV mb []::L):=SH.is (l:=[]) h
theorem SH.VL{mb:Nat}{s:Ct.St}{zs:List (Nat×Ct.Ex)}{b:Nat}{e:Ct.Ex}(h:SH B w (XA b mb ⟨e,s⟩::eV mb zs::L)):SH B w (eV mb (zs++[(b,e)])::cR mb s::L):=by
 have h1:=(SH.se (l:=[VE b mb e,cR mb s]) h).fr (.c r2 .n)
 have h2:SH B w (zs.map (Jm mb)++Jm mb (b,e)::cR mb s::L):=SH.se h1
 refine SH.is (l:=(zs++[(b,e)]).map (Jm mb)) ?_
 rw[Ft,dP];exact h2
theorem SH.Qi{mb:Nat}{x:Ct.X}{b:Nat}(h:SH B w (XA b mb x::L)):SH B w (cR mb x.s::L):=(SH.se (l:=[VE b mb x.e,cR mb x.s]) h).drop
end Go.E
end
section
namespace Go.Q9
open Go.Proofs.Tryz
open Go.RowKit Go.E Go.Ct
attribute [local irreducible] gB wpS Go.E.X XS C jU kP fin Y U F Ca jT bl rb aU bV ex ce pu sK gK bK zK gM fO dH
def Ct.PP(s:Ct.St):Ct.St×Ct.bC:=
 let a:=s.alloc {kind:=3} 0
 let g:=a.1.bS
 let m:=g.1.alloc {kind:=2,gen:=g.2} a.2
 let c:=m.1.aV m.2
 (c.1,{root:=c.2})
variable{B w:World}{L:List As}
theorem rW(mb:Nat)(s:Ct.St)(c:Ct.Call)(F:Nat)(h:SH B w (cR mb s::L))(k:Ct.Ok 60 (Ct.cD 0 (⟨{call:=c},s⟩:Ct.X)))(hx:(Ct.cD 0 (⟨{call:=c},s⟩:Ct.X)).left<F)(hF:F<=100000000000)(hm:c.aI<18446744073709551616)(hky:c.key.size<=9223372036854775807)(hk7:7<=c.kind)(hk12:c.kind<=12):
  Calls prog 11 #[↑mb,.agg [↑c.kind,↑c.aE.root,↑c.aE.readOnly,↑c.a,↑c.b,↑c.n,↑c.index,.int .u64 (c.hash:Int),.int .u64 (c.aI:Int),↑c.key,.int .u64 (c.value:Int),.int .u64 (c.expect:Int),↑c.bF,↑c.only,↑c.walk.started,.slice none 0 0,.slice none 0 0,↑c.answer.err,↑c.answer.found,.int .u64 (c.answer.value:Int),↑c.answer.key,↑c.answer.count,↑c.answer.ref,↑c.answer.aE.root,↑c.answer.aE.readOnly].toArray] w λe w'=>∃xb,e=.returned (.pointer (some ⟨xb,0,none⟩))/\SH B w' (XA xb mb (Ct.bX (Ct.bY c F) 0 (⟨{call:=c},s⟩:Ct.X))::L)/\Ct.Ok 50 (Ct.bX (Ct.bY c F) 0 (⟨{call:=c},s⟩:Ct.X)):=by
 refine bZ func11 ntmps11 h λw h=>?_
 refine jX h λb1 w h=>?_
 refine jX h λb2 w h=>?_
 have h:=h.fr (.c r0 (.c r1 .n))
 have h:=SH.nil 39 1 (SH.nil 39 1 (SH.nil 36 1 (SH.nil 3 1 h)))
 have h:=h.fr (.c r4 .n)
 have h:SH B w (XA b2 mb (⟨{call:=c},s⟩:Ct.X)::bl b1 ([↑c.kind,↑c.aE.root,↑c.aE.readOnly,↑c.a,↑c.b,↑c.n,↑c.index,.int .u64 (c.hash:Int),.int .u64 (c.aI:Int),↑c.key,.int .u64 (c.value:Int),.int .u64 (c.expect:Int),↑c.bF,↑c.only,↑c.walk.started,.slice none 0 0,.slice none 0 0,↑c.answer.err,↑c.answer.found,.int .u64 (c.answer.value:Int),↑c.answer.key,↑c.answer.count,↑c.answer.ref,↑c.answer.aE.root,↑c.answer.aE.readOnly]) 48::L):=SH.xi (e:={call:=c}) ⟨none,0,none,0,none,0,none,0⟩ h
 refine go h λw h=>?_
 refine SS (Kn _ _ (⟨{call:=c},s⟩:Ct.X) _ _ h.to k (by decide) hx hF hm hky hk7 hk12) λw h k=>?_
 exact rz ⟨_,rfl,h.to,k⟩
section
attribute [local semireducible] gB wpS Go.E.X XS C jU kP fin Y U F Ca jT bl rb aU bV ex ce pu sK gK bK zK gM fO dH
attribute [local irreducible] gB wpS
variable{B w:World}{L:List As}
theorem Jf(mb:Nat)(s:Ct.St)(h:SH B w (cR mb s::L))(hr:s.size<=90000000000):
  Calls prog 20 #[↑mb] w λe w'=>e=.returned (.agg (cU (Ct.PP s).2).toArray)/\SH B w' (cR mb (Ct.PP s).1::L):=by
 refine Ea (args:=[_]) func20 rfl ntmps20 rfl ?_
 refine sq<|rg<|sf (al h e9)<|?_
 rintro _ w ⟨b1,rfl,h⟩
 refine xe<|nx<|sq<|rg<|st (mv rfl)<|st (bd [.int .i64 3,.int .i64 0,.int .i64 0,.int .u64 0,.slice none 0 0,.int .u64 0,.string .empty,.int .u64 0,.slice none 0 0,.int .i64 0,.int .i64 0,.int .i64 0,.int .i64 0,.int .i64 0] wS rfl (by kernel_rfl))<|cl (ca eF rfl) ((Ck mb s ({kind:=3}:Ct.Node) {} 0 (SH.eE ({kind:=3}:Ct.Node) rfl rfl (h.fr (.c r1 .n))) (by omega) (dI _) (dI _)).mono ?_)
 rintro _ w ⟨rfl,h⟩
 have z2:=(Ct.St.lP s ({kind:=3}:Ct.Node) 0).1
 refine⟨_,rfl,?_⟩
 refine st (sg rfl)<|xe<|nx<|sq<|rg<|st (mv rfl)<|cl (ca eF rfl) ((Jb mb (s.alloc ({kind:=3}:Ct.Node) 0).1 (h.fr (.c r0 .n)) (by omega)).mono ?_)
 rintro _ w ⟨rfl,h⟩
 have z3:(s.alloc ({kind:=3}:Ct.Node) 0).1.bS.1.size<=(s.alloc ({kind:=3}:Ct.Node) 0).1.size+1:=by unfold Ct.St.bS Ct.St.size;dsimp only;omega
 refine⟨_,rfl,?_⟩
 refine st (sg rfl)<|xe<|nx<|sq<|rg<|st (mv rfl)<|st (mv rfl)<|st (mv rfl)<|st (bd [.int .i64 2,.int .i64 (s.alloc ({kind:=3}:Ct.Node) 0).1.bS.2,.int .i64 0,.int .u64 0,.slice none 0 0,.int .u64 0,.string .empty,.int .u64 0,.slice none 0 0,.int .i64 0,.int .i64 0,.int .i64 0,.int .i64 0,.int .i64 0] wS rfl (by kernel_rfl))<|st (mv rfl)<|cl (ca eF rfl) ((Ck mb (s.alloc ({kind:=3}:Ct.Node) 0).1.bS.1 ({kind:=2,gen:=(s.alloc ({kind:=3}:Ct.Node) 0).1.bS.2}:Ct.Node) {} (s.alloc ({kind:=3}:Ct.Node) 0).2 (SH.eE ({kind:=2,gen:=(s.alloc ({kind:=3}:Ct.Node) 0).1.bS.2}:Ct.Node) rfl rfl (h.fr (.c r0 .n))) (by omega) (dI _) (dI _)).mono ?_)
 rintro _ w ⟨rfl,h⟩
 have z4:=(Ct.St.lP (s.alloc ({kind:=3}:Ct.Node) 0).1.bS.1 ({kind:=2,gen:=(s.alloc ({kind:=3}:Ct.Node) 0).1.bS.2}:Ct.Node) (s.alloc ({kind:=3}:Ct.Node) 0).2).1
 refine⟨_,rfl,?_⟩
 refine cl (ca eF rfl) ((kE mb ((s.alloc ({kind:=3}:Ct.Node) 0).1.bS.1.alloc ({kind:=2,gen:=(s.alloc ({kind:=3}:Ct.Node) 0).1.bS.2}:Ct.Node) (s.alloc ({kind:=3}:Ct.Node) 0).2).1 ((s.alloc ({kind:=3}:Ct.Node) 0).1.bS.1.alloc ({kind:=2,gen:=(s.alloc ({kind:=3}:Ct.Node) 0).1.bS.2}:Ct.Node) (s.alloc ({kind:=3}:Ct.Node) 0).2).2 (h.fr (.c r0 .n)) (by omega)).mono ?_)
 rintro _ w ⟨rfl,h⟩
 refine⟨_,rfl,?_⟩
 refine st (bd [.int .i64 (((s.alloc ({kind:=3}:Ct.Node) 0).1.bS.1.alloc ({kind:=2,gen:=(s.alloc ({kind:=3}:Ct.Node) 0).1.bS.2}:Ct.Node) (s.alloc ({kind:=3}:Ct.Node) 0).2).1.aV ((s.alloc ({kind:=3}:Ct.Node) 0).1.bS.1.alloc ({kind:=2,gen:=(s.alloc ({kind:=3}:Ct.Node) 0).1.bS.2}:Ct.Node) (s.alloc ({kind:=3}:Ct.Node) 0).2).2).2,↑false] j1 rfl (by kernel_rfl))<|sf (so h rfl rfl rfl Ec rfl (.r (.r .d)) u1)<|?_
 rintro _ w h
 refine xe<|nx<|rt<|?_
 refine rr (bP results20 rfl (h.b a1) Hc)<|⟨rfl,(h.fr (.c r1 .n)).drop⟩
end
variable{B w:World}{L:List As}
theorem EG(h:SH B w (L)):
  Calls prog 18 #[] w λe w'=>∃mb,e=.returned (.pointer (some ⟨mb,0,none⟩))/\SH B w' (cR mb {}::L):=by
 refine bZ func18 ntmps18 h λw h=>?_
 refine sf (bu [.int .i64 1,.int .i64 0,.int .i64 0,.int .u64 0,.slice none 0 0,.int .u64 0,.string .empty,.int .u64 0,.slice none 0 0,.int .i64 0,.int .i64 0,.int .i64 0,.int .i64 0,.int .i64 0,.int .i64 1,.int .i64 0,.int .i64 0,.int .u64 0,.slice none 0 0,.int .u64 0,.string .empty,.int .u64 0,.slice none 0 0,.int .i64 0,.int .i64 0,.int .i64 0,.int .i64 0,.int .i64 0] h fR.h Ss.h rfl (by kernel_rfl) rfl (by decide) (by decide)) ?_
 rintro _ w ⟨b1,rfl,h⟩
 refine go h λw h=>?_
 refine jX h λb2 w h=>?_
 refine rz ?_
 refine⟨_,rfl,SH.mi ⟨some ⟨b1,0,none⟩,2,none,0,[(({kind:=1}:Ct.Node),{}),(({kind:=1}:Ct.Node),{})]⟩ rfl ?_⟩
 have h:=h.fr (.c r0 (.c r0 .n))
 have h:=SH.eE ({kind:=1}:Ct.Node) rfl rfl (SH.eE ({kind:=1}:Ct.Node) rfl rfl h.YH)
 have h:=h.FM
 have h:=SH.nil 39 1 h
 exact h.fr (.c r2 (.c r2 (.c r0 (.c r0 .n))))
end Go.Q9
end
