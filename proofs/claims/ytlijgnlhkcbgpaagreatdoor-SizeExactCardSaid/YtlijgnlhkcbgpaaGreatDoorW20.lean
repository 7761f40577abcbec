/- Parts of a proof: Rl, Wf, Azg, Gr. -/
import Derived.Test.YtlijgnlhkcbgpaaGreatDoorW19
set_option linter.unusedVariables false
set_option linter.unusedSimpArgs false
set_option maxRecDepth 100000
set_option maxHeartbeats 4000000
section
namespace Go.Q9
open Go.Proofs.Tryz
open Go.RowKit Go.E
attribute [local irreducible] gB wpS
variable{B w:World}{L:List As}{β γ:Type}
abbrev Xp(S:dN)(pb:Nat)(v:Int)(b:Bool):As:=bl pb [S.v,↑v,↑b] 132
def JC(S:dN)(pb:Nat):As:=ex λz:Int×Bool=>Xp S pb z.1 z.2
theorem IJ{P:Program}{T U F:TypeId}{pb:Nat}{t:TypeId}{x:Value}{w:World}{f:Nat}{n:String}{r:FuncId×Value}
  (hm:((P.info? T).bind λi=>(i.methods.find? (·.name==n)).map λm=>(m.path.toList,m.func))=some ([⟨U,0,true⟩],none))
  (hu:((P.underlying U).bind λd=>match d with|.struct fs=>(fs[0]?).map λf=>(f.type,f.offset)|_=>none)=some (F,0))
  (h1:tA P F=true) (hz:(P.info? F).map (·.size)=some 1) (hc:w.cell? ⟨pb,0,none⟩=some (.iface t x)) (h:(method f t x n).run P w=.ok r w):
  (method (f+1) T ↑pb n).run P w=.ok r w:=by
 obtain⟨i,hi,hm⟩:=Option.bind_eq_some_iff.1 hm
 obtain⟨m,hf,hm⟩:=Option.map_eq_some_iff.1 hm
 obtain⟨d,hd,hu⟩:=Option.bind_eq_some_iff.1 hu
 obtain⟨j,hj,hz⟩:=Option.map_eq_some_iff.1 hz
 injection hm with hp hq
 have h2:=(IG (w:=w) h1).1
 cases d with
 |struct fs=>
  obtain⟨g,hg,hu⟩:=Option.map_eq_some_iff.1 hu
  injection hu with ht ho
  have hl:(loadVar F ⟨pb,0,none⟩).run P w=.ok (.iface t x) w:=by simp[loadVar,h2,load,Sem.run,hc]
  simp[method,typeInfo,hi,hf,hp,follow,run_underlying hd,hg,Place.get,asAddr,fieldPlace,ht,ho,sizeOf,hj,hz,hq,hl,h,Addr.add]
 |_=>cases hu
theorem Z9{pb:Nat}{t:TypeId}{x:Value}{w:World}{f:Nat}{r:FuncId×Value}(hc:w.cell? ⟨pb,0,none⟩=some (.iface t x))(h:(method f t x "Node").run prog w=.ok r w):(method (f+1) 130 (QQ pb) "Node").run prog w=.ok r w:=
 IJ (U:=132) (F:=86) (by kernel_rfl) (by kernel_rfl) (by kernel_rfl) (by kernel_rfl) hc h
theorem V0{pb:Nat}{t:TypeId}{x:Value}{w:World}{f:Nat}{r:FuncId×Value}(hc:w.cell? ⟨pb,0,none⟩=some (.iface t x))(h:(method f t x "Alloc").run prog w=.ok r w):(method (f+1) 130 (QQ pb) "Alloc").run prog w=.ok r w:=
 IJ (U:=132) (F:=86) (by kernel_rfl) (by kernel_rfl) (by kernel_rfl) (by kernel_rfl) hc h
theorem TB{pb:Nat}{t:TypeId}{x:Value}{w:World}{f:Nat}{r:FuncId×Value}(hc:w.cell? ⟨pb,0,none⟩=some (.iface t x))(h:(method f t x "NewCell").run prog w=.ok r w):(method (f+1) 130 (QQ pb) "NewCell").run prog w=.ok r w:=
 IJ (U:=132) (F:=86) (by kernel_rfl) (by kernel_rfl) (by kernel_rfl) (by kernel_rfl) hc h
theorem t9{pb:Nat}{t:TypeId}{x:Value}{w:World}{f:Nat}{r:FuncId×Value}(hc:w.cell? ⟨pb,0,none⟩=some (.iface t x))(h:(method f t x "NewGen").run prog w=.ok r w):(method (f+1) 130 (QQ pb) "NewGen").run prog w=.ok r w:=
 IJ (U:=132) (F:=86) (by kernel_rfl) (by kernel_rfl) (by kernel_rfl) (by kernel_rfl) hc h
theorem aA8(a:Addr)(w:World):(method 346 130 (.pointer (some a)) "Load").run prog w=.ok (225,.pointer (some a)) w:=by kernel_rfl
theorem aBi(a:Addr)(w:World):(method 346 130 (.pointer (some a)) "CAS").run prog w=.ok (224,.pointer (some a)) w:=by kernel_rfl
theorem aA0(S:dN)(pb:Nat){w:World}{O R:Nat->Prop}(hp:(se [JC S pb,se S.X]).p w O R):V3 (S.d+1) 130 (QQ pb) S.ab w:=by
 obtain⟨Os,Rs,h1,_⟩:=hp
 obtain⟨z,hz⟩:=h1 0 _ rfl
 have hm:=S.A9 (h1 1 _ rfl)
 have hc:w.cell? ⟨pb,0,none⟩=some (.iface S.t S.x):=by
  have:=dK hz.1 0 (.iface S.t S.x) rfl
  simpa using this
 refine⟨λf hf=>?_,λf hf=>?_,λf hf=>?_,λf hf=>?_⟩<;>(obtain⟨f,rfl⟩:∃g,f=g+1:=⟨f-1,by omega⟩)
 ·exact Z9 hc (hm.node f (by omega))
 ·exact V0 hc (hm.alloc f (by omega))
 ·exact TB hc (hm.cell f (by omega))
 ·exact t9 hc (hm.gen f (by omega))
def oG(S:dN)(pb:Nat)(h:S.d+1<=346):dN:=⟨130,QQ pb,S.ab,[JC S pb,se S.X],S.d+1,h,aA0 S pb⟩
def PX(S:dN)(pb:Nat)(v:Int)(b:Bool)(s:Ct.St):As:=se [wW S.ab s,se [Xp S pb v b,se S.X]]
theorem FF{S:dN}{pb:Nat}{v:Int}{b:Bool}{s:Ct.St}(h:SH B w (Xp S pb v b::S.a s::L)):SH B w (PX S pb v b s::L):=by
 have h:=(SH.so (h.fr (.c r1 .n))).fr (.c r2 (.c r1 .n))
 have h:=SH.is (l:=[Xp S pb v b,se S.X]) (L:=wW S.ab s::L) h
 exact SH.is (l:=[_,_]) (h.fr (.c r1 (.c r0 .n)))
theorem XZ{S:dN}{pb:Nat}{v:Int}{b:Bool}{s:Ct.St}(h:SH B w (PX S pb v b s::L)):SH B w (Xp S pb v b::S.a s::L):=by
 have h:=(SH.se (l:=[_,_]) h).fr (.c r1 .n)
 have h:=(SH.se (l:=[Xp S pb v b,se S.X]) h).fr (.c r2 (.c r1 .n))
 exact(SH.si h).fr (.c r1 .n)
theorem DL{S:dN}{pb:Nat}{hd:S.d+1<=346}{v:Int}{b:Bool}{s:Ct.St}(h:SH B w (PX S pb v b s::L)):SH B w ((oG S pb hd).a s::L):=by
 have h:=(SH.se (l:=[_,_]) h).fr (.c r1 .n)
 have h:=SH.se (l:=[Xp S pb v b,se S.X]) h
 have h:=SH.dU (f:=λz:Int×Bool=>Xp S pb z.1 z.2) (v,b) h
 have h:=SH.is (l:=[JC S pb,se S.X]) (L:=wW S.ab s::L) h
 exact SH.is (l:=[_,_]) (h.fr (.c r1 (.c r0 .n)))
theorem IX{S:dN}{pb:Nat}{hd:S.d+1<=346}{s:Ct.St}(h:SH B w ((oG S pb hd).a s::L)):∃v b,SH B w (Xp S pb v b::S.a s::L):=by
 have h:=(SH.se (l:=[_,_]) h).fr (.c r1 .n)
 have h:=SH.se (l:=[JC S pb,se S.X]) h
 obtain⟨z,h⟩:=SH.ex (f:=λz:Int×Bool=>Xp S pb z.1 z.2) h
 exact⟨z.1,z.2,(SH.si (h.fr (.c r2 (.c r1 .n)))).fr (.c r1 .n)⟩
theorem LN(S:dN)(pb:Nat)(v:Int)(b:Bool)(c:Int)(h:SH B w (bl pb ([S.v,↑v,↑b]) 132::L)):
  Calls prog 225 #[↑pb,↑c] w λe w'=>e=.returned ↑v/\SH B w' (bl pb ([S.v,↑v,↑b]) 132::L):=by
 refine Ea (args:=[_,_]) func225 rfl ntmps225 rfl ?_
 refine sq<|rg<|st (sg rfl)<|xe<|nx<|sq<|rg<|st (mv rfl)<|st (nc rfl rfl)<|st (fa KC rfl)<|st (ld fS rfl (h.c a0 rfl))<|st (sg rfl)<|xe<|nx<|rt<|?_
 refine rr (jP results225 rfl)<|⟨rfl,h⟩
theorem TP(S:dN)(pb:Nat)(v:Int)(b:Bool)(c o x:Int)(h:SH B w (bl pb ([S.v,↑v,↑b]) 132::L)):
  Calls prog 224 #[↑pb,↑c,↑o,↑x] w λe w'=>e=.returned ↑b/\SH B w' (bl pb ([S.v,↑v,↑b]) 132::L):=by
 refine Ea (args:=[_,_,_,_]) func224 rfl ntmps224 rfl ?_
 refine sq<|rg<|st (sg rfl)<|xe<|nx<|sq<|rg<|st (mv rfl)<|st (nc rfl rfl)<|st (fa NR rfl)<|st (ld xN rfl (h.c a0 rfl))<|st (sg rfl)<|xe<|nx<|rt<|?_
 refine rr (jP results224 rfl)<|⟨rfl,h⟩
theorem R7(S:dN)(pb:Nat)(hd:S.d+1≤346)(v:Int)(b:Bool)(c:Int)(s:Ct.St):Acs (oG S pb hd) "Load" [↑c] (.int .i64 v) (PX S pb v b s) ((oG S pb hd).a s):=
 ⟨_,QQ pb,λw=>aA8 _ w,eF,λB w L h=>(LN S pb v b c (XZ h)).mono λe w' h=>⟨h.1,DL (FF h.2)⟩⟩
theorem Z3(S:dN)(pb:Nat)(hd:S.d+1≤346)(v:Int)(b:Bool)(c o x:Int)(s:Ct.St):Acs (oG S pb hd) "CAS" [↑c,↑o,↑x] (.bool b) (PX S pb v b s) ((oG S pb hd).a s):=
 ⟨_,QQ pb,λw=>aBi _ w,eF,λB w L h=>(TP S pb v b c o x (XZ h)).mono λe w' h=>⟨h.1,DL (FF h.2)⟩⟩
theorem M0{ρ:β->Ct.Result}{M:β->As}(S:dN)(pb:Nat)(hd:S.d+1<=346)(v:Int)(b:Bool)(n tb k:Nat)(a:Int)(f:Int->Ct.I β)(s:Ct.St)(h:SH B w (fD (oG S pb hd) (Ak ρ M) (n+1) tb (.load a f) k::Xp S pb v b::S.a s::L))(hs:Ct.Rm 100 s)(hk:k<=9000000000000000000):
  Calls prog 27 #[↑tb] w λe w'=>∃s' u' v' b',(f v).head s=(s',u')/\e=.returned (.tuple #[])/\SH B w' (fD (oG S pb hd) (Ak ρ M) n tb u' (k+1)::Xp S pb v' b'::S.a s'::L):=by
 refine(XK (oG S pb hd) (PX S pb v b s) n tb k a v f s s (λh=>DL h) (R7 S pb hd v b a s) ((FF (h.fr (.c r1 (.c r1 .n)))).fr (.c r1 .n)) hs hs hk).mono ?_
 rintro e w' ⟨s',u',hq,rfl,h⟩
 obtain⟨v',b',h⟩:=IX (h.fr (.c r1 .n))
 exact⟨s',u',v',b',hq,rfl,h.fr (.c r2 .n)⟩
theorem U5{ρ:β->Ct.Result}{M:β->As}(S:dN)(pb:Nat)(hd:S.d+1<=346)(v:Int)(b:Bool)(n tb k:Nat)(a o x:Int)(f:Bool->Ct.I β)(s:Ct.St)(h:SH B w (fD (oG S pb hd) (Ak ρ M) (n+1) tb (.eA a o x f) k::Xp S pb v b::S.a s::L))(hs:Ct.Rm 100 s)(hk:k<=9000000000000000000):
  Calls prog 27 #[↑tb] w λe w'=>∃s' u' v' b',(f b).head s=(s',u')/\e=.returned (.tuple #[])/\SH B w' (fD (oG S pb hd) (Ak ρ M) n tb u' (k+1)::Xp S pb v' b'::S.a s'::L):=by
 refine(W5 (oG S pb hd) (PX S pb v b s) n tb k a o x b f s s (λh=>DL h) (Z3 S pb hd v b a o x s) ((FF (h.fr (.c r1 (.c r1 .n)))).fr (.c r1 .n)) hs hs hk).mono ?_
 rintro e w' ⟨s',u',hq,rfl,h⟩
 obtain⟨v',b',h⟩:=IX (h.fr (.c r1 .n))
 exact⟨s',u',v',b',hq,rfl,h.fr (.c r2 .n)⟩
def KN{α:Type}(S:dN)(F:γ->Cc->As)(n j:Nat)(args:α->List Value)(M:α->As)(Q:Nat->α->Prop)(k:α->Ct.I γ)(v:Fv):As:=
 gM λw O R=>∀m,m<n->∀(B:World) (L:List As) (s:Ct.St) (a:α),Q m a->SH B w (WM w O R::M a::S.a s::L)->Ct.Rm j s->jK prog v (args a) w (CP S F m B (k a) s L)
theorem aBk{α:Type}{S:dN}{F:γ->Cc->As}{n j m:Nat}{args:α->List Value}{M:α->As}{Q:Nat->α->Prop}{k:α->Ct.I γ}{v:Fv}{s:Ct.St}(a:α)(hm:m<n)(ha:Q m a)(h:SH B w (KN S F n j args M Q k v::M a::S.a s::L))(hs:Ct.Rm j s):jK prog v (args a) w (CP S F m B (k a) s L):=by
 obtain⟨O,R,hq,h⟩:=h.ZQ
 exact hq m hm B L s a ha h hs
theorem aCo{α:Type}{S:dN}{F:γ->Cc->As}{n j:Nat}{args:α->List Value}{M:α->As}{Q:Nat->α->Prop}{k:α->Ct.I γ}{v:Fv}(l:List As)(h:SH B w (l++L))
  (hc:∀m,m<n->∀(B w:World) (L:List As) (s:Ct.St) (a:α),Q m a->SH B w (l++M a::S.a s::L)->Ct.Rm j s->jK prog v (args a) w (CP S F m B (k a) s L)):SH B w (KN S F n j args M Q k v::L):=
 (SH.is h).box λw' O R hA m hm B L s a ha h' hs=>hc m hm B w' L s a ha (SH.se (h'.l6 hA)) hs
theorem JO{α:Type}{S:dN}{F:γ->Cc->As}{m n j:Nat}{args:α->List Value}{M:α->As}{Q:Nat->α->Prop}{k:α->Ct.I γ}{v:Fv}(hm:m<=n)(h:SH B w (KN S F n j args M Q k v::L)):SH B w (KN S F m j args M Q k v::L):=h.imp λO R hA=>
 ⟨hA.1,hA.2.1,λw' hs hk i hi=>hA.2.2 w' hs hk i (DM hi hm)⟩
theorem aBl{α:Type}{S:dN}{F:γ->Cc->As}{n j pb:Nat}{args:α->List Value}{M:α->As}{X:As}{Q:Nat->α->Prop}{k:α->Ct.I γ}{v:Fv}(h:SH B w (KN S F n j args (λb=>se [M b,X]) Q k v::L)):SH B w (KN S F n j args (λb=>se [M b,X,JC S pb]) Q k v::L):=h.imp λO R hA=>
 ⟨hA.1,hA.2.1,λw' hs hk m hm B L s a ha h' hr=>hA.2.2 w' hs hk m hm B L s a ha (by
  have h2:=((SH.se (l:=[M a,X,JC S pb]) (h'.fr (.c r1 .n))).fr (.c r2 .n)).drop
  exact(SH.is (l:=[M a,X]) h2).fr (.c r1 .n)) hr⟩
def Sq{β:Type}(ρ:β->Ct.Result)(b:β):List Value:=[.agg (Mf (ρ b)).toArray]
def LJ{β:Type}(_:β):As:=se []
end Go.Q9
end
section
namespace Go.Q9
open Go.Proofs.Tryz
open Go.RowKit Go.E
open Go.Ct (qN qA qC qG qT qF)
attribute [local irreducible] gB wpS
variable{B w:World}{L:List As}
def Bo{β γ:Type}(S:dN)(pb:Nat)(hd:S.d+1<=346)(ρ:β->Ct.Result)(M:β->As)(X:As)(Q:Nat->β->Prop)(F:γ->Cc->As)(n:Nat):Prop:=∀(tb kk:Nat) (th:Fv) (k:β->Ct.I γ) (u:Ct.I β) (v:Int) (b:Bool) (B w:World) (L:List As) (s:Ct.St),SH B w (fD (oG S pb hd) (Ak ρ M) n tb u kk::bl pb ([S.v,↑v,.bool b]) 132::X::KN S F (n+1) 70 (Sq ρ) (λb=>se [M b,X,JC S pb]) Q k th::S.a s::L)->Ct.Rm 75 s->(∀i,Ct.RZ i u)->Ct.dJ Q n u->kk+n<=8000000000000000000->
 Calls prog 105 #[↑pb,↑tb,th.val] w λe w'=>CP S F n B (u.bind k) s L e w'
theorem BC{β γ:Type}(S:dN)(pb:Nat)(hd:S.d+1<=346)(ρ:β->Ct.Result)(M:β->As)(X:As)(Q:Nat->β->Prop)(F:γ->Cc->As){m n:Nat}(hm:m<n)(hrec:Bo S pb hd ρ M X Q F m)(cb0 cb1 cb2:Nat)(tb kk:Nat)(th:Fv)(k:β->Ct.I γ)(v:Int)(b:Bool)(a:Int)(f:Int->Ct.I β)(x:Int)(s:Ct.St)(h:SH B w (rb cb0 ([↑pb]) 130::rb cb1 ([↑tb]) 52::rb cb2 [th.val] 92::fD (oG S pb hd) (Ak ρ M) n tb (Ct.I.load a f) kk::bl pb ([S.v,↑v,.bool b]) 132::X::KN S F n 70 (Sq ρ) (λb=>se [M b,X,JC S pb]) Q k th::S.a s::L))(hs:Ct.Rm 100 s)(hfw:∀r,Ct.RZ 20 (f r))(hlf:∀r,Ct.dJ Q m (f r))(hk:kk+n<=8000000000000000000):
  Calls prog 144 #[↑x,↑cb0,↑cb1,↑cb2] w λe w'=>CP S F m B ((f x).bind k) s L e w':=by
 have h:=aAl hm (h.fr (.c r3 .n))
 have h:=JO (Nat.succ_le_of_lt hm) (h.fr (.c r6 .n))
 refine Ea (args:=[_,_,_,_]) func144 rfl ntmps144 rfl ?_
 refine sq<|rg<|sf (al h nN)<|?_
 rintro _ w ⟨b1,rfl,h⟩
 refine xe<|nx<|sq<|rg<|st (ld Vw rfl (h.B8 a3 rfl))<|st (mv rfl)<|st (nc rfl rfl)<|st (fa KC rfl)<|sf (so h rfl rfl rfl vD rfl (.s (.r .d)) u6)<|?_
 rintro _ w h
 refine xe<|nx<|sq<|rg<|st (ld XF rfl (h.B8 a4 rfl))<|cl (ca eF rfl) ((M0 S pb hd x b m tb kk a f s (h.fr (.c r2 (.c r5 (.c r6 .n)))) hs (by omega)).mono ?_)
 rintro _ w ⟨s2,uz3,vz4,bz5,hq6,rfl,h⟩
 have hw':=(hfw x).head (j:=80) (s:=s) hs
 have hl':=Ct.vX (j:=80) (s:=s) (hfw x) hs (hlf x)
 rw[hq6]at hw' hl'
 refine⟨_,rfl,?_⟩
 refine xe<|nx<|sq<|rg<|st (ld Vw rfl (h.B8 a5 rfl))<|st (ld XF rfl (h.B8 a6 rfl))<|st (ld TF rfl (h.B8 a7 rfl))<|cl (ca eF rfl) ((hrec tb (kk+1) th k uz3 vz4 bz5 _ _ _ s2 (h.fr (.c r0 (.c r0 (.c r6 (.c r2 (.c r0 .n)))))) (hw'.1.less (by decide)) hw'.2 hl' (by omega)).mono ?_)
 rintro _ w ⟨s7,t8,c9,hq10,rfl,h⟩
 refine⟨_,rfl,?_⟩
 refine sf (so h rfl rfl rfl iR (eO _) (.r (.r (.r (.r (.r (.r (.r (.r (.r (.r (.r (.r (.r (.r .d)))))))))))))) u2)<|?_
 rintro _ w h
 refine xe<|nx<|rt<|?_
 refine rr (bP results144 rfl (h.b a2) iO)<|?_
 exact fI (Ct.CV hq6 (hq10)) (h.fr (.c r2 (.c r2 (.c r2 (.c r2 .n))))).drop.drop.drop.drop
theorem BD{β γ:Type}(S:dN)(pb:Nat)(hd:S.d+1<=346)(ρ:β->Ct.Result)(M:β->As)(X:As)(Q:Nat->β->Prop)(F:γ->Cc->As){m n:Nat}(hm:m<n)(hrec:Bo S pb hd ρ M X Q F m)(cb0 cb1 cb2:Nat)(tb kk:Nat)(th:Fv)(k:β->Ct.I γ)(v:Int)(b:Bool)(a o z:Int)(f:Bool->Ct.I β)(x:Bool)(s:Ct.St)(h:SH B w (rb cb0 ([↑pb]) 130::rb cb1 ([↑tb]) 52::rb cb2 [th.val] 92::fD (oG S pb hd) (Ak ρ M) n tb (Ct.I.eA a o z f) kk::bl pb ([S.v,↑v,.bool b]) 132::X::KN S F n 70 (Sq ρ) (λb=>se [M b,X,JC S pb]) Q k th::S.a s::L))(hs:Ct.Rm 100 s)(hfw:∀r,Ct.RZ 20 (f r))(hlf:∀r,Ct.dJ Q m (f r))(hk:kk+n<=8000000000000000000):
  Calls prog 146 #[↑x,↑cb0,↑cb1,↑cb2] w λe w'=>CP S F m B ((f x).bind k) s L e w':=by
 have h:=aAl hm (h.fr (.c r3 .n))
 have h:=JO (Nat.succ_le_of_lt hm) (h.fr (.c r6 .n))
 refine Ea (args:=[_,_,_,_]) func146 rfl ntmps146 rfl ?_
 refine sq<|rg<|sf (al h nN)<|?_
 rintro _ w ⟨b1,rfl,h⟩
 refine xe<|nx<|sq<|rg<|st (ld Vw rfl (h.B8 a3 rfl))<|st (mv rfl)<|st (nc rfl rfl)<|st (fa NR rfl)<|sf (so h rfl rfl rfl AU rfl (.s (.s (.r .d))) u6)<|?_
 rintro _ w h
 refine xe<|nx<|sq<|rg<|st (ld XF rfl (h.B8 a4 rfl))<|cl (ca eF rfl) ((U5 S pb hd v x m tb kk a o z f s (h.fr (.c r2 (.c r5 (.c r6 .n)))) hs (by omega)).mono ?_)
 rintro _ w ⟨s2,uz3,vz4,bz5,hq6,rfl,h⟩
 have hw':=(hfw x).head (j:=80) (s:=s) hs
 have hl':=Ct.vX (j:=80) (s:=s) (hfw x) hs (hlf x)
 rw[hq6]at hw' hl'
 refine⟨_,rfl,?_⟩
 refine xe<|nx<|sq<|rg<|st (ld Vw rfl (h.B8 a5 rfl))<|st (ld XF rfl (h.B8 a6 rfl))<|st (ld TF rfl (h.B8 a7 rfl))<|cl (ca eF rfl) ((hrec tb (kk+1) th k uz3 vz4 bz5 _ _ _ s2 (h.fr (.c r0 (.c r0 (.c r6 (.c r2 (.c r0 .n)))))) (hw'.1.less (by decide)) hw'.2 hl' (by omega)).mono ?_)
 rintro _ w ⟨s7,t8,c9,hq10,rfl,h⟩
 refine⟨_,rfl,?_⟩
 refine sf (so h rfl rfl rfl iR (eO _) (.r (.r (.r (.r (.r (.r (.r (.r (.r (.r (.r (.r (.r (.r .d)))))))))))))) u2)<|?_
 rintro _ w h
 refine xe<|nx<|rt<|?_
 refine rr (bP results146 rfl (h.b a2) iO)<|?_
 exact fI (Ct.CV hq6 (hq10)) (h.fr (.c r2 (.c r2 (.c r2 (.c r2 .n))))).drop.drop.drop.drop
theorem U9{β:Type}{Q:Nat->β->Prop}(hQ:∀m n b,m<=n->Q n b->Q m b){m n:Nat}(hm:m<n){c:Int}{f:Int->Ct.I β}(h:Ct.dJ Q n (.load c f)):∀r,Ct.dJ Q m (f r):=λr=>by
 obtain⟨n,rfl⟩:∃i,n=i+1:=⟨n-1,by omega⟩
 exact Ct.dJ.less hQ (by omega) (h r)
theorem P3{β:Type}{Q:Nat->β->Prop}(hQ:∀m n b,m<=n->Q n b->Q m b){m n:Nat}(hm:m<n){c o z:Int}{f:Bool->Ct.I β}(h:Ct.dJ Q n (.eA c o z f)):∀r,Ct.dJ Q m (f r):=λr=>by
 obtain⟨n,rfl⟩:∃i,n=i+1:=⟨n-1,by omega⟩
 exact Ct.dJ.less hQ (by omega) (h r)
theorem HG{β γ:Type}(S:dN)(pb:Nat)(hd:S.d+1<=346)(ρ:β->Ct.Result)(M:β->As)(X:As)(Q:Nat->β->Prop)(F:γ->Cc->As)(hQ:∀m n b,m<=n->Q n b->Q m b)(n:Nat)(hrec:∀j,j<n->Bo S pb hd ρ M X Q F j)(tb kk:Nat)(th:Fv)(k:β->Ct.I γ)(v:Int)(b:Bool)(z:β)(s:Ct.St)(h:SH B w (fD (oG S pb hd) (Ak ρ M) n tb (Ct.I.ret z) kk::bl pb ([S.v,↑v,.bool b]) 132::X::KN S F (n+1) 70 (Sq ρ) (λb=>se [M b,X,JC S pb]) Q k th::S.a s::L))(hs:Ct.Rm 75 s)(hfw:∀i,Ct.RZ i (Ct.I.ret z))(hlf:Ct.dJ Q n (Ct.I.ret z))(hk:kk+n<=8000000000000000000):
  Calls prog 105 #[↑pb,↑tb,th.val] w λe w'=>CP S F n B ((Ct.I.ret z).bind k) s L e w':=by
 refine Ea (args:=[_,_,_]) func105 rfl ntmps105 rfl ?_
 refine sq<|rg<|sf (bx h rfl rfl)<|?_
 rintro _ w ⟨b1,rfl,h⟩
 refine sf (bx h rfl rfl)<|?_
 rintro _ w ⟨b2,rfl,h⟩
 refine sf (bx h rfl (lE _))<|?_
 rintro _ w ⟨b3,rfl,h⟩
 refine sf (al h nN)<|?_
 rintro _ w ⟨b4,rfl,h⟩
 refine xe<|nx<|sq<|rg<|st (ld XF rfl (h.c a2 rfl))<|cl (ca eF rfl) ((GM (oG S pb hd) n tb kk (Ct.I.ret z) (h.fr (.c r4 .n))).mono ?_)
 rintro _ w ⟨rfl,h⟩
 refine⟨_,rfl,?_⟩
 refine st (mv rfl)<|st (xr rfl rfl)<|st (xr rfl rfl)<|sf (al h S3)<|?_
 rintro _ w ⟨b5,rfl,h⟩
 refine sf (so h rfl rfl rfl X2 rfl (.r (.r (.r (.r .d)))) u0)<|?_
 rintro _ w h
 refine st (sg rfl)<|xe<|nx<|sq<|sq<|rg<|st (mv rfl)<|st (nt rfl)<|xe<|nx<|cT rfl<|sq<|dZ [1,3,4,6,8] (by kernel_rfl) h (.c r3 (.c r3 .n)) λw h=>tk (λW H=>ld TF rfl (H.c a0 rfl))<|tk (λW H=>ld XF rfl (H.c a1 rfl))<|cs (ca eF rfl) ((GA (oG S pb hd) n tb kk z (h.fr (.c r1 .n))).mono ?_)
 rintro _ w ⟨rfl,h⟩
 refine⟨_,rfl,h.hs (.c r3 (.c r3 .n)),?_⟩
 have h:=SH.dU (f:=λz:Int×Bool=>Xp S pb z.1 z.2) (v,b) (h.fr (.c r6 .n))
 have h:=SH.is (l:=[M z,X,JC S pb]) (h.fr (.c r1 (.c r6 (.c r0 .n))))
 refine aCy rfl rfl ((aBk z (Nat.lt_succ_self n) (by cases n<;>exact hlf) (h.fr (.c r6 (.c r0 (.c r5 .n)))) (hs.less (by decide))).mono ?_)
 rintro _ w ⟨s6,t7,c8,hq9,rfl,h⟩
 refine⟨_,rfl,h.hs (.c r4 (.c r4 .n)),?_⟩
 refine ff (so h rfl rfl rfl iR (eO _) (.r (.r (.r (.r (.r (.r (.r (.r (.r (.r (.r (.r (.r (.r .d)))))))))))))) u3)<|?_
 rintro _ w h
 refine⟨h.hs (.c r4 (.c r4 .n)),?_⟩
 refine xz<|nx<|rt<|tr<|?_
 refine rr (bP results105 rfl (h.b a3) iO)<|?_
 exact fI (hq9) (h.fr (.c r2 (.c r2 (.c r2 (.c r2 (.c r2 .n)))))).drop.drop.drop.drop.drop
theorem If{β γ:Type}(S:dN)(pb:Nat)(hd:S.d+1<=346)(ρ:β->Ct.Result)(M:β->As)(X:As)(Q:Nat->β->Prop)(F:γ->Cc->As)(hQ:∀m n b,m<=n->Q n b->Q m b)(n:Nat)(hrec:∀j,j<n->Bo S pb hd ρ M X Q F j)(tb kk:Nat)(th:Fv)(k:β->Ct.I γ)(v:Int)(b:Bool)(a:Int)(f:Int->Ct.I β)(s:Ct.St)(h:SH B w (fD (oG S pb hd) (Ak ρ M) n tb (Ct.I.load a f) kk::bl pb ([S.v,↑v,.bool b]) 132::X::KN S F n 70 (Sq ρ) (λb=>se [M b,X,JC S pb]) Q k th::S.a s::L))(hs:Ct.Rm 20 s)(hfw:∀i,Ct.RZ i (Ct.I.load a f))(hlf:Ct.dJ Q n (Ct.I.load a f))(hk:kk+n<=8000000000000000000):
  Calls prog 105 #[↑pb,↑tb,th.val] w λe w'=>CP S F n B ((Ct.I.load a f).bind k) s L e w':=by
 refine Ea (args:=[_,_,_]) func105 rfl ntmps105 rfl ?_
 refine sq<|rg<|sf (bx h rfl rfl)<|?_
 rintro _ w ⟨b1,rfl,h⟩
 refine sf (bx h rfl rfl)<|?_
 rintro _ w ⟨b2,rfl,h⟩
 refine sf (bx h rfl (lE _))<|?_
 rintro _ w ⟨b3,rfl,h⟩
 refine sf (al h nN)<|?_
 rintro _ w ⟨b4,rfl,h⟩
 refine xe<|nx<|sq<|rg<|st (ld XF rfl (h.c a2 rfl))<|cl (ca eF rfl) ((GM (oG S pb hd) n tb kk (Ct.I.load a f) (h.fr (.c r4 .n))).mono ?_)
 rintro _ w ⟨rfl,h⟩
 refine⟨_,rfl,?_⟩
 refine st (mv rfl)<|st (xr rfl rfl)<|st (xr rfl rfl)<|sf (al h S3)<|?_
 rintro _ w ⟨b5,rfl,h⟩
 refine sf (so h rfl rfl rfl X2 rfl (.r (.r (.r (.r .d)))) u0)<|?_
 rintro _ w h
 refine st (sg rfl)<|xe<|nx<|sq<|sq<|rg<|st (mv rfl)<|st (nt rfl)<|xe<|nx<|cF rfl<|sk<|nx<|sq<|sq<|rg<|st (fa WJ rfl)<|st (ld jE rfl (h.c a0 rfl))<|st (bi rfl rfl rfl)<|xe<|nx<|cT rfl<|sq<|?_
 have h:=SH.kX (h.fr (.c r5 .n))
 have h:=SH.kX (h.fr (.c r5 .n))
 have h:=SH.kX (h.fr (.c r5 .n))
 refine rg<|st (fa WA rfl)<|st (ld vA rfl (h.c a3 rfl))<|st (mf rfl rfl)<|cl (ca eF rfl) ((jH a (.fn 144 [] [↑b1,↑b2,↑b3]) (h.fr .n)).mono ?_)
 rintro _ w ⟨rfl,h⟩
 refine⟨_,rfl,?_⟩
 refine sf (so h rfl rfl rfl iR (eO _) (.r (.r (.r (.r (.r (.r (.r (.r (.r (.r (.r (.r (.r (.r .d)))))))))))))) u5)<|?_
 rintro _ w h
 refine xe<|nx<|rt<|tr<|?_
 refine rr (bP results105 rfl (h.b a5) iO)<|?_
 have h:=h.fr (.c r2 (.c r1 (.c r0 (.c r1 (.c r2 (.c r2 (.c r2 .n)))))))
 have h:=Nt (S:=S) (F:=F) (n:=n) (args:=dQ) (k:=(λr=>(f r).bind k)) (v:=(.fn 144 [] [↑b1,↑b2,↑b3])) [rb b1 ([↑pb]) 130,rb b2 ([↑tb]) 52,rb b3 [th.val] 92,fD (oG S pb hd) (Ak ρ M) n tb (Ct.I.load a f) kk,bl pb ([S.v,↑v,.bool b]) 132,X,KN S F n 70 (Sq ρ) (λb=>se [M b,X,JC S pb]) Q k th] h λm' hm' B' w' L' s' x' h' hs'=>pR eF (BC S pb hd ρ M X Q F hm' (hrec m' hm') b1 b2 b3 tb kk th k v b a f x' s' h' hs' (hfw 0) (U9 hQ hm' hlf) hk)
 have h:=kL (a:=a) h
 exact fI (rfl) (h.fr (.c r1 (.c r1 .n))).drop.drop
theorem Nw{β γ:Type}(S:dN)(pb:Nat)(hd:S.d+1<=346)(ρ:β->Ct.Result)(M:β->As)(X:As)(Q:Nat->β->Prop)(F:γ->Cc->As)(hQ:∀m n b,m<=n->Q n b->Q m b)(n:Nat)(hrec:∀j,j<n->Bo S pb hd ρ M X Q F j)(tb kk:Nat)(th:Fv)(k:β->Ct.I γ)(v:Int)(b:Bool)(a o z:Int)(f:Bool->Ct.I β)(s:Ct.St)(h:SH B w (fD (oG S pb hd) (Ak ρ M) n tb (Ct.I.eA a o z f) kk::bl pb ([S.v,↑v,.bool b]) 132::X::KN S F n 70 (Sq ρ) (λb=>se [M b,X,JC S pb]) Q k th::S.a s::L))(hs:Ct.Rm 20 s)(hfw:∀i,Ct.RZ i (Ct.I.eA a o z f))(hlf:Ct.dJ Q n (Ct.I.eA a o z f))(hk:kk+n<=8000000000000000000):
  Calls prog 105 #[↑pb,↑tb,th.val] w λe w'=>CP S F n B ((Ct.I.eA a o z f).bind k) s L e w':=by
 refine Ea (args:=[_,_,_]) func105 rfl ntmps105 rfl ?_
 refine sq<|rg<|sf (bx h rfl rfl)<|?_
 rintro _ w ⟨b1,rfl,h⟩
 refine sf (bx h rfl rfl)<|?_
 rintro _ w ⟨b2,rfl,h⟩
 refine sf (bx h rfl (lE _))<|?_
 rintro _ w ⟨b3,rfl,h⟩
 refine sf (al h nN)<|?_
 rintro _ w ⟨b4,rfl,h⟩
 refine xe<|nx<|sq<|rg<|st (ld XF rfl (h.c a2 rfl))<|cl (ca eF rfl) ((GM (oG S pb hd) n tb kk (Ct.I.eA a o z f) (h.fr (.c r4 .n))).mono ?_)
 rintro _ w ⟨rfl,h⟩
 refine⟨_,rfl,?_⟩
 refine st (mv rfl)<|st (xr rfl rfl)<|st (xr rfl rfl)<|sf (al h S3)<|?_
 rintro _ w ⟨b5,rfl,h⟩
 refine sf (so h rfl rfl rfl X2 rfl (.r (.r (.r (.r .d)))) u0)<|?_
 rintro _ w h
 refine st (sg rfl)<|xe<|nx<|sq<|sq<|rg<|st (mv rfl)<|st (nt rfl)<|xe<|nx<|cF rfl<|sk<|nx<|sq<|sq<|rg<|st (fa WJ rfl)<|st (ld jE rfl (h.c a0 rfl))<|st (bi rfl rfl rfl)<|xe<|nx<|cF rfl<|sk<|nx<|sq<|?_
 have h:=SH.kX (h.fr (.c r5 .n))
 have h:=SH.kX (h.fr (.c r5 .n))
 have h:=SH.kX (h.fr (.c r5 .n))
 refine rg<|st (fa WA rfl)<|st (ld vA rfl (h.c a3 rfl))<|st (fa H' rfl)<|st (ld fS rfl (h.c a3 rfl))<|st (fa Z2 rfl)<|st (ld fS rfl (h.c a3 rfl))<|st (mf rfl rfl)<|cl (ca eF rfl) ((iW a o z (.fn 146 [] [↑b1,↑b2,↑b3]) (h.fr .n)).mono ?_)
 rintro _ w ⟨rfl,h⟩
 refine⟨_,rfl,?_⟩
 refine sf (so h rfl rfl rfl iR (eO _) (.r (.r (.r (.r (.r (.r (.r (.r (.r (.r (.r (.r (.r (.r .d)))))))))))))) u5)<|?_
 rintro _ w h
 refine xe<|nx<|rt<|?_
 refine rr (bP results105 rfl (h.b a5) iO)<|?_
 have h:=h.fr (.c r2 (.c r1 (.c r0 (.c r1 (.c r2 (.c r2 (.c r2 .n)))))))
 have h:=Nt (S:=S) (F:=F) (n:=n) (args:=dV) (k:=(λr=>(f r).bind k)) (v:=(.fn 146 [] [↑b1,↑b2,↑b3])) [rb b1 ([↑pb]) 130,rb b2 ([↑tb]) 52,rb b3 [th.val] 92,fD (oG S pb hd) (Ak ρ M) n tb (Ct.I.eA a o z f) kk,bl pb ([S.v,↑v,.bool b]) 132,X,KN S F n 70 (Sq ρ) (λb=>se [M b,X,JC S pb]) Q k th] h λm' hm' B' w' L' s' x' h' hs'=>pR eF (BD S pb hd ρ M X Q F hm' (hrec m' hm') b1 b2 b3 tb kk th k v b a o z f x' s' h' hs' (hfw 0) (P3 hQ hm' hlf) hk)
 have h:=kC (a:=a) (o:=o) (x:=z) h
 exact fI (rfl) (h.fr (.c r1 (.c r1 .n))).drop.drop
theorem CF{β γ:Type}(S:dN)(pb:Nat)(hd:S.d+1<=346)(ρ:β->Ct.Result)(M:β->As)(X:As)(Q:Nat->β->Prop)(F:γ->Cc->As)(hQ:∀m n b,m<=n->Q n b->Q m b)(n:Nat):Bo S pb hd ρ M X Q F n:=by
 induction n using Nat.strongRecOn with
 |ind n ih=>
  intro tb kk th k u v b B w L s h hs hfw hlf hk
  have hr:=TT h
  cases u with
  |ret z=>exact HG S pb hd ρ M X Q F hQ n ih tb kk th k v b z s h hs hfw hlf hk
  |load a f=>exact If S pb hd ρ M X Q F hQ n ih tb kk th k v b a f s ((JO (Nat.le_succ n) (h.fr (.c r3 .n))).fr (.c r1 (.c r1 (.c r1 (.c r0 .n))))) (hs.less (by decide)) hfw hlf hk
  |eA a o z f=>exact Nw S pb hd ρ M X Q F hQ n ih tb kk th k v b a o z f s ((JO (Nat.le_succ n) (h.fr (.c r3 .n))).fr (.c r1 (.c r1 (.c r1 (.c r0 .n))))) (hs.less (by decide)) hfw hlf hk
  |_=>exact hr.elim
theorem FG{β γ:Type}(S:dN)(pb:Nat)(hd:S.d+1<=346)(ρ:β->Ct.Result)(M:β->As)(X:As)(Q:Nat->β->Prop)(F:γ->Cc->As)(hQ:∀m n b,m<=n->Q n b->Q m b)(n tb kk:Nat)(th:Fv)(k:β->Ct.I γ)(u:Ct.I β)(v:Int)(b:Bool)(s:Ct.St)(h:SH B w (fD (oG S pb hd) (Ak ρ M) n tb u kk::bl pb ([S.v,↑v,.bool b]) 132::X::KN S F n 70 (Sq ρ) (λb=>se [M b,X,JC S pb]) Q k th::S.a s::L))(hs:Ct.Rm 20 s)(hu:u.ended=none)(hfw:∀i,Ct.RZ i u)(hlf:Ct.dJ Q n u)(hk:kk+n<=8000000000000000000):
  Calls prog 105 #[↑pb,↑tb,th.val] w λe w'=>CP S F n B (u.bind k) s L e w':=by
 have hr:=TT h
 cases u with
 |ret z=>cases hu
 |load a f=>exact If S pb hd ρ M X Q F hQ n (λj _=>CF S pb hd ρ M X Q F hQ j) tb kk th k v b a f s h hs hfw hlf hk
 |eA a o z f=>exact Nw S pb hd ρ M X Q F hQ n (λj _=>CF S pb hd ρ M X Q F hQ j) tb kk th k v b a o z f s h hs hfw hlf hk
 |_=>exact hr.elim
theorem P4{β γ:Type}(S:dN)(hd:S.d+1<=346)(ρ:β->Ct.Result)(M:β->As)(X Y:As)(Q:Nat->β->Prop)(F:γ->Cc->As)(hQ:∀m n b,m<=n->Q n b->Q m b)(n:Nat)(sv th:Fv)(k:β->Ct.I γ)(t:Ct.I β)(s:Ct.St)(hst:∀(B w:World) (L:List As) (pb:Nat) (hd:S.d+1<=346),SH B w (bl pb ([S.v,.int .i64 0,↑false]) 132::Y::S.a s::L)->jK prog sv [.iface 130 (QQ pb)] w λe w'=>∃tb s1 u1 v1 b1,t.head s=(s1,u1)/\e=.returned (.pointer (some ⟨tb,0,none⟩))/\SH B w' (fD (oG S pb hd) (Ak ρ M) n tb u1 0::bl pb ([S.v,.int .i64 v1,.bool b1]) 132::X::S.a s1::L))(h:SH B w (Y::KN S F n 70 (Sq ρ) (λb=>se [M b,X]) Q k th::S.a s::L))(hs:Ct.Rm 60 s)(hfw:Ct.RZ 15 t)(hlf:Ct.dJ Q n t)(hne:(t.head s).2.ended=none)(hk:n<=8000000000000000000):
  Calls prog 102 #[S.v,sv.val,th.val] w λe w'=>CP S F n B (t.bind k) s L e w':=by
 refine Ea (args:=[_,_,_]) func102 rfl ntmps102 rfl ?_
 refine sq<|rg<|sf (al h nN)<|?_
 rintro _ w ⟨b1,rfl,h⟩
 refine xe<|nx<|sq<|rg<|st (mv rfl)<|st (bd [S.v,.int .i64 0,↑false] U3 rfl (by kernel_rfl))<|sf (bx h rfl rfl)<|?_
 rintro _ w ⟨b2,rfl,h⟩
 refine st (sg rfl)<|xe<|nx<|sq<|rg<|st (mv rfl)<|st (mv rfl)<|st (mv rfl)<|st (mi S6 rfl rfl)<|PM rfl rfl ((hst _ _ _ b2 hd (h.fr (.c r0 (.c r1 (.c r2 .n))))).mono ?_)
 rintro _ w ⟨tb4,s3,uz5,vz6,bz7,hq8,rfl,h⟩
 have hw':=hfw.head (j:=45) (s:=s) hs
 have hl':=Ct.vX (j:=45) (s:=s) hfw hs hlf
 have hn':=hne
 rw[hq8]at hw' hl' hn'
 refine⟨_,rfl,?_⟩
 refine st (mv rfl)<|?_
 have h:=aBl (pb:=b2) (h.fr (.c r5 .n))
 refine cl (ca eF rfl) ((FG S b2 hd ρ M X Q F hQ n tb4 0 th k uz5 vz6 bz7 s3 (h.fr (.c r1 (.c r1 (.c r1 (.c r0 (.c r0 .n)))))) (hw'.1.less (by decide)) hn' hw'.2 hl' (by omega)).mono ?_)
 rintro _ w ⟨s9,t10,c11,hq12,rfl,h⟩
 refine⟨_,rfl,?_⟩
 refine sf (so h rfl rfl rfl iR (eO _) (.r (.r (.r (.r (.r (.r (.r (.r (.r (.r (.r (.r (.r (.r .d)))))))))))))) u2)<|?_
 rintro _ w h
 refine xe<|nx<|rt<|?_
 refine rr (bP results102 rfl (h.b a2) iO)<|?_
 exact fI (Ct.CV hq8 (hq12)) (h.fr (.c r2 .n)).drop
theorem JK{β γ:Type}(S:dN)(pb:Nat)(hd:S.d+1<=346)(ρ:β->Ct.Result)(M:β->As)(X:As)(Q:Nat->β->Prop)(F:γ->Cc->As)(hQ:∀m n b,m<=n->Q n b->Q m b)(n tb kk:Nat)(th:Fv)(k:β->Ct.I γ)(u:Ct.I β)(v:Int)(b:Bool)(s:Ct.St)(h:SH B w (fD (oG S pb hd) (Ak ρ M) n tb u kk::bl pb ([S.v,↑v,.bool b]) 132::X::KN S F n 70 (Sq ρ) (λb=>se [M b,X,JC S pb]) Q k th::S.a s::L))(hs:Ct.Rm 20 s)(hu:u.ended=none)(hfw:∀i,Ct.RZ i u)(hlf:Ct.dJ Q n u)(hk:kk+n<=8000000000000000000):
  Calls prog 69 #[.iface 130 ↑pb,↑tb,th.val] w λe w'=>CP S F n B (u.bind k) s L e w':=by
 refine Ea (args:=[_,_,_]) func69 rfl ntmps69 rfl ?_
 refine sq<|rg<|sf (al h nN)<|?_
 rintro _ w ⟨b1,rfl,h⟩
 refine xe<|nx<|sq<|rg<|st (mv rfl)<|st (tas rfl rfl rfl)<|st (mv rfl)<|st (xr rfl rfl)<|st (xr rfl rfl)<|st (sg rfl)<|st (sg rfl)<|xe<|nx<|sq<|sq<|rg<|st (mv rfl)<|st (nt rfl)<|xe<|nx<|cF rfl<|sk<|nx<|sq<|rg<|st (mv rfl)<|st (mv rfl)<|st (mv rfl)<|cl (ca eF rfl) ((FG S pb hd ρ M X Q F hQ n tb kk th k u v b s (h.fr (.c r1 (.c r1 (.c r1 (.c r1 (.c r1 .n)))))) hs hu hfw hlf hk).mono ?_)
 rintro _ w ⟨s2,t3,c4,hq5,rfl,h⟩
 refine⟨_,rfl,?_⟩
 refine sf (so h rfl rfl rfl iR (eO _) (.r (.r (.r (.r (.r (.r (.r (.r (.r (.r (.r (.r (.r (.r .d)))))))))))))) u2)<|?_
 rintro _ w h
 refine xe<|nx<|rt<|?_
 refine rr (bP results69 rfl (h.b a2) iO)<|?_
 exact fI (hq5) (h.fr (.c r2 .n)).drop
end Go.Q9
end
section
namespace Go.Q9
open Go.Proofs.Tryz
open Go.E
theorem T9:KY prog 201=some ([.nilIface,.int .i64 0,↑false],[(0,1),(1,2)]):=by kernel_rfl
theorem U8:(prog.info? 201).map (·.size)=some 3:=by kernel_rfl
theorem T8:zc prog 201=some [.nilIface,.int .i64 0,↑false]:=by kernel_rfl
end Go.Q9
end
section
namespace Go.Q9
open Go.Proofs.Tryz
open Go.RowKit Go.E
open Go.Ct (qN qA qC qG qT qF)
attribute [local irreducible] gB wpS
abbrev Mi:Ct.Result->Cc->As:=Ak id LJ
variable{B w:World}{L:List As}
theorem n7(S:dN){n m:Nat}(hm:m<=n)(x:Int)(s:Ct.St)(h:SH B w (S.a s::L))(hs:Ct.Rm 60 s):
  Calls prog 143 #[↑x] w λe w'=>CP S Mi m B ((λm_b=>.ret {ref:=m_b}) x) s L e w':=by
 refine Ea (args:=[_]) func143 rfl ntmps143 rfl ?_
 refine sq<|rg<|sf (al h nN)<|?_
 rintro _ w ⟨b1,rfl,h⟩
 refine xe<|nx<|sq<|rg<|st (mv rfl)<|st (bd [.int .i64 0,↑false,.int .u64 0,.string .empty,.int .i64 0,↑x,.int .i64 0,↑false] Oo rfl (by kernel_rfl))<|cl (ca eF rfl) ((gV ({ref:=x}:Ct.Result) (h.fr .n)).mono ?_)
 rintro _ w ⟨rfl,h⟩
 refine⟨_,rfl,?_⟩
 refine sf (so h rfl rfl rfl iR (eO _) (.r (.r (.r (.r (.r (.r (.r (.r (.r (.r (.r (.r (.r (.r .d)))))))))))))) u0)<|?_
 rintro _ w h
 refine xe<|nx<|rt<|?_
 refine rr (bP results143 rfl (h.b a0) iO)<|?_
 have h:=kG (S:=S) (n:=m) (ρ:=id) (M:=LJ) ({ref:=x}:Ct.Result) (SH.is (l:=[]) h)
 exact fI (rfl) (h.fr (.c r1 .n)).drop
theorem P2(S:dN)(cb0 cb1:Nat)(t:Ct.bC)(i:Int){n m:Nat}(hm:m<=n)(s:Ct.St)(h:SH B w (rb cb0 ([S.v,↑t.root,↑t.readOnly]) 201::rb cb1 ([↑i]) 45::S.a s::L))(hs:Ct.Rm 60 s):
  Calls prog 141 #[↑cb0,↑cb1] w λe w'=>CP S Mi m B ((λ_=>Ct.mM t i (λm_b=>.ret {ref:=m_b})) ()) s L e w':=by
 refine Ea (args:=[_,_]) func141 rfl ntmps141 rfl ?_
 refine sq<|rg<|sf (al h nN)<|?_
 rintro _ w ⟨b1,rfl,h⟩
 refine xe<|nx<|sq<|rg<|st (gJ rfl (dK (h.rb a1)) Y3)<|st (ld fS rfl (h.B8 a2 rfl))<|?_
 have h:=h.fr .n
 have h:=Me (j:=60) (S:=S) (F:=Mi) (n:=m) (args:=dQ) (k:=(λm_b=>.ret {ref:=m_b})) (v:=(.fn 143 [] [])) [] h λm' hm' B' w' L' s' x' h' hs'=>pR eF (n7 S (Nat.le_of_lt hm') x' s' h' (hs'.less (by decide)))
 refine cl (ca eF rfl) ((jZ S Mi t i (.fn 143 [] []) (λm_b=>.ret {ref:=m_b}) m s (h.fr (.c r0 (.c r3 .n))) (hs.less (by decide))).mono ?_)
 rintro _ w ⟨s2,t3,c4,hq5,rfl,h⟩
 refine⟨_,rfl,?_⟩
 refine sf (so h rfl rfl rfl iR (eO _) (.r (.r (.r (.r (.r (.r (.r (.r (.r (.r (.r (.r (.r (.r .d)))))))))))))) u2)<|?_
 rintro _ w h
 refine xe<|nx<|rt<|?_
 refine rr (bP results141 rfl (h.b a2) iO)<|?_
 exact fI (hq5) (h.fr (.c r2 (.c r2 (.c r2 .n)))).drop.drop.drop
theorem OV(S:dN)(N:Nat)(t:Ct.bC)(i:Int)(s:Ct.St)(h:SH B w (S.a s::L))(hs:Ct.Rm 60 s):
  Calls prog 101 #[S.v,.agg [↑t.root,↑t.readOnly].toArray,↑i] w λe w'=>∃tb s' u,(Ct.mM t i (λm=>.ret {ref:=m})).head s=(s',u)/\e=.returned (.pointer (some ⟨tb,0,none⟩))/\SH B w' (fD S Mi N tb u 0::S.a s'::L):=by
 refine Ea (args:=[_,_,_]) func101 rfl ntmps101 rfl ?_
 refine sq<|rg<|sf (bx h rfl rfl)<|?_
 rintro _ w ⟨b1,rfl,h⟩
 refine sf (bx h rfl rfl)<|?_
 rintro _ w ⟨b2,rfl,h⟩
 refine st (sg rfl)<|xe<|nx<|sq<|rg<|st (mv rfl)<|st (gJ rfl (dK (h.b a1)) oB)<|st (bd [S.v,↑t.root,↑t.readOnly] T9 rfl (by kernel_rfl))<|sf (al h T8)<|?_
 rintro _ w ⟨b3,rfl,h⟩
 refine sf (so h rfl rfl rfl U8 rfl (.r (.r (.r .d))) u0)<|?_
 rintro _ w h
 refine xe<|nx<|sq<|?_
 have h:=SH.kX (h.fr (.c r0 .n))
 have h:=SH.kX (h.fr (.c r1 .n))
 refine rg<|st (mv rfl)<|st (mf rfl rfl)<|?_
 have h:=h.eT a0
 have h:=h.eT a2
 have h:=h.fr (.c r0 (.c r0 .n))
 have h:=YZ (S:=S) (F:=Mi) (n:=N) (j:=60) (args:=qI) (k:=(λ_=>Ct.mM t i (λm_b=>.ret {ref:=m_b}))) (v:=(.fn 141 [] [↑b3,↑b2])) [rb b3 ([S.v,↑t.root,↑t.readOnly]) 201,rb b2 ([↑i]) 45] h λB' w' L' s' x' h' hs'=>pR eF (P2 S b3 b2 t i (bD _) s' h' (hs'.less (by decide)))
 refine cl (ca eF rfl) ((Vz S Mi N (.fn 141 [] [↑b3,↑b2]) (λ_=>Ct.mM t i (λm_b=>.ret {ref:=m_b})) s (h.fr (.c r0 (.c r3 .n))) (hs.less (by decide))).mono ?_)
 rintro _ w ⟨tb4,s5,uz6,hq7,rfl,h⟩
 refine⟨_,rfl,?_⟩
 refine st (sg rfl)<|xe<|nx<|rt<|?_
 refine rr (jP results101 rfl)<|⟨tb4,s5,uz6,hq7,rfl,(h.fr (.c r2 (.c r2 (.c r2 .n)))).drop.drop.drop⟩
end Go.Q9
end
