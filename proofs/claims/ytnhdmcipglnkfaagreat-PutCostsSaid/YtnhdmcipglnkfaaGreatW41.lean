/- Parts of a proof: Q8, Tg, Th. -/
import Derived.Test.YtnhdmcipglnkfaaGreatW40
set_option linter.unusedVariables false
set_option linter.unusedSimpArgs false
set_option maxRecDepth 100000
set_option maxHeartbeats 4000000
section
namespace Go.Q9
open Go.Proofs.Tryz
open Go.RowKit Go.E Go.Ct
attribute [local irreducible] gA wpS Go.E.X XS C kV lL fin Y U F Ca kU bl rb aV bS ex ce pu sK gK bK zK gG fE cZ gY mA rQ
def Ct.J6(s:Ct.St):Ct.St×Ct.aX:=
 let a:=s.alloc {kind:=3} 0
 let g:=a.1.bL
 let m:=g.1.alloc {kind:=2,gen:=g.2} a.2
 let c:=m.1.aT m.2
 (c.1,{root:=c.2})
variable{B w:World}{L:List As}
theorem XK(mb:Nat)(s:Ct.St)(c:Ct.Call)(F:Nat)(h:SH B w (dX mb s::L))(k:Ct.Ok 60 (Ct.cE 0 (⟨{call:=c},s⟩:Ct.X)))(hx:(Ct.cE 0 (⟨{call:=c},s⟩:Ct.X)).left<F)(hF:F<=100000000000)(hm:c.aI<18446744073709551616)(vE:c.key.size<=9223372036854775807)(hk7:7<=c.kind)(PX:c.kind<=12\/c.kind<=12):
  Calls prog 68 #[↑mb,.agg [↑c.kind,↑c.aF.root,↑c.aF.readOnly,↑c.a,↑c.b,↑c.n,↑c.index,.int .u64 (c.hash:Int),.int .u64 (c.aI:Int),↑c.key,.int .u64 (c.value:Int),.int .u64 (c.expect:Int),↑c.bF,↑c.only,↑c.walk.started,.slice none 0 0,.slice none 0 0,↑c.answer.err,↑c.answer.found,.int .u64 (c.answer.value:Int),↑c.answer.key,↑c.answer.count,↑c.answer.ref,↑c.answer.aF.root,↑c.answer.aF.readOnly].toArray] w λe w'=>∃xb,e=.returned (.pointer (some ⟨xb,0,none⟩))/\SH B w' (XA xb mb (Ct.cC (Ct.cA c F) 0 (⟨{call:=c},s⟩:Ct.X))::L)/\Ct.Ok 50 (Ct.cC (Ct.cA c F) 0 (⟨{call:=c},s⟩:Ct.X)):=by
 refine cN func68 ntmps68 h λw h=>?_
 refine jX h λb1 w h=>?_
 refine jX h λb2 w h=>?_
 have h:=h.fr (.c r0 (.c r1 .n))
 have h:=SH.nil 44 1 (SH.nil 44 1 (SH.nil 33 1 (SH.nil 3 1 h)))
 have h:=h.fr (.c r4 .n)
 have h:SH B w (XA b2 mb (⟨{call:=c},s⟩:Ct.X)::bl b1 ([↑c.kind,↑c.aF.root,↑c.aF.readOnly,↑c.a,↑c.b,↑c.n,↑c.index,.int .u64 (c.hash:Int),.int .u64 (c.aI:Int),↑c.key,.int .u64 (c.value:Int),.int .u64 (c.expect:Int),↑c.bF,↑c.only,↑c.walk.started,.slice none 0 0,.slice none 0 0,↑c.answer.err,↑c.answer.found,.int .u64 (c.answer.value:Int),↑c.answer.key,↑c.answer.count,↑c.answer.ref,↑c.answer.aF.root,↑c.answer.aF.readOnly]) 60::L):=SH.xi (e:={call:=c}) ⟨none,0,none,0,none,0,none,0⟩ h
 refine go h λw h=>?_
 refine aDu (Ta _ _ (⟨{call:=c},s⟩:Ct.X) _ _ h.to k (by decide) hx hF hm vE hk7 PX) λw h k=>?_
 exact rz ⟨_,rfl,h.to,k⟩
section
attribute [local semireducible] gA wpS Go.E.X XS C kV lL fin Y U F Ca kU bl rb aV bS ex ce pu sK gK bK zK gG fE cZ gY mA rQ
attribute [local irreducible] gA wpS
variable{B w:World}{L:List As}
theorem Qb(mb:Nat)(s:Ct.St)(h:SH B w (dX mb s::L))(hr:s.size<=90000000000):
  Calls prog 29 #[↑mb] w λe w'=>e=.returned (.agg (dV (Ct.J6 s).2).toArray)/\SH B w' (dX mb (Ct.J6 s).1::L):=by
 refine Kk (args:=[_]) func29 rfl ntmps29 rfl ?_
 refine sq<|rg<|sf (al h aK1)<|?_
 rintro _ w ⟨b1,rfl,h⟩
 refine xe<|nx<|sq<|rg<|st (mv rfl)<|st (bd [.int .i64 3,.int .i64 0,.int .i64 0,.int .u64 0,.slice none 0 0,.int .u64 0,.string .empty,.int .u64 0,.slice none 0 0,.int .i64 0,.int .i64 0,.int .i64 0,.int .i64 0,.int .i64 0] Cp rfl (by kernel_rfl))<|cl (ca eF rfl) ((Ib mb s ({kind:=3}:Ct.Node) {} 0 (SH.fI ({kind:=3}:Ct.Node) rfl rfl (h.fr (.c r1 .n))) (by omega) (bZ _) (bZ _)).mono ?_)
 rintro _ w ⟨rfl,h⟩
 have z2:=(Ct.St.mM s ({kind:=3}:Ct.Node) 0).1
 refine⟨_,rfl,?_⟩
 refine st (sg rfl)<|xe<|nx<|sq<|rg<|st (mv rfl)<|cl (ca eF rfl) ((Sn mb (s.alloc ({kind:=3}:Ct.Node) 0).1 (h.fr (.c r0 .n)) (by omega)).mono ?_)
 rintro _ w ⟨rfl,h⟩
 have z3:(s.alloc ({kind:=3}:Ct.Node) 0).1.bL.1.size<=(s.alloc ({kind:=3}:Ct.Node) 0).1.size+1:=by unfold Ct.St.bL Ct.St.size;dsimp only;omega
 refine⟨_,rfl,?_⟩
 refine st (sg rfl)<|xe<|nx<|sq<|rg<|st (mv rfl)<|st (mv rfl)<|st (mv rfl)<|st (bd [.int .i64 2,.int .i64 (s.alloc ({kind:=3}:Ct.Node) 0).1.bL.2,.int .i64 0,.int .u64 0,.slice none 0 0,.int .u64 0,.string .empty,.int .u64 0,.slice none 0 0,.int .i64 0,.int .i64 0,.int .i64 0,.int .i64 0,.int .i64 0] Cp rfl (by kernel_rfl))<|st (mv rfl)<|cl (ca eF rfl) ((Ib mb (s.alloc ({kind:=3}:Ct.Node) 0).1.bL.1 ({kind:=2,gen:=(s.alloc ({kind:=3}:Ct.Node) 0).1.bL.2}:Ct.Node) {} (s.alloc ({kind:=3}:Ct.Node) 0).2 (SH.fI ({kind:=2,gen:=(s.alloc ({kind:=3}:Ct.Node) 0).1.bL.2}:Ct.Node) rfl rfl (h.fr (.c r0 .n))) (by omega) (bZ _) (bZ _)).mono ?_)
 rintro _ w ⟨rfl,h⟩
 have z4:=(Ct.St.mM (s.alloc ({kind:=3}:Ct.Node) 0).1.bL.1 ({kind:=2,gen:=(s.alloc ({kind:=3}:Ct.Node) 0).1.bL.2}:Ct.Node) (s.alloc ({kind:=3}:Ct.Node) 0).2).1
 refine⟨_,rfl,?_⟩
 refine cl (ca eF rfl) ((mU mb ((s.alloc ({kind:=3}:Ct.Node) 0).1.bL.1.alloc ({kind:=2,gen:=(s.alloc ({kind:=3}:Ct.Node) 0).1.bL.2}:Ct.Node) (s.alloc ({kind:=3}:Ct.Node) 0).2).1 ((s.alloc ({kind:=3}:Ct.Node) 0).1.bL.1.alloc ({kind:=2,gen:=(s.alloc ({kind:=3}:Ct.Node) 0).1.bL.2}:Ct.Node) (s.alloc ({kind:=3}:Ct.Node) 0).2).2 (h.fr (.c r0 .n)) (by omega)).mono ?_)
 rintro _ w ⟨rfl,h⟩
 refine⟨_,rfl,?_⟩
 refine st (bd [.int .i64 (((s.alloc ({kind:=3}:Ct.Node) 0).1.bL.1.alloc ({kind:=2,gen:=(s.alloc ({kind:=3}:Ct.Node) 0).1.bL.2}:Ct.Node) (s.alloc ({kind:=3}:Ct.Node) 0).2).1.aT ((s.alloc ({kind:=3}:Ct.Node) 0).1.bL.1.alloc ({kind:=2,gen:=(s.alloc ({kind:=3}:Ct.Node) 0).1.bL.2}:Ct.Node) (s.alloc ({kind:=3}:Ct.Node) 0).2).2).2,↑false] aK3 rfl (by kernel_rfl))<|sf (so h rfl rfl rfl Kc rfl (.r (.r .d)) u1)<|?_
 rintro _ w h
 refine xe<|nx<|rt<|?_
 refine rr (cD results29 rfl (h.b a1) LZ)<|⟨rfl,(h.fr (.c r1 .n)).drop⟩
end
variable{B w:World}{L:List As}
theorem RT(h:SH B w (L)):
  Calls prog 27 #[] w λe w'=>∃mb,e=.returned (.pointer (some ⟨mb,0,none⟩))/\SH B w' (dX mb {}::L):=by
 refine cN func27 ntmps27 h λw h=>?_
 refine sf (bu [.int .i64 1,.int .i64 0,.int .i64 0,.int .u64 0,.slice none 0 0,.int .u64 0,.string .empty,.int .u64 0,.slice none 0 0,.int .i64 0,.int .i64 0,.int .i64 0,.int .i64 0,.int .i64 0,.int .i64 1,.int .i64 0,.int .i64 0,.int .u64 0,.slice none 0 0,.int .u64 0,.string .empty,.int .u64 0,.slice none 0 0,.int .i64 0,.int .i64 0,.int .i64 0,.int .i64 0,.int .i64 0] h gB.h Ss.h rfl (by kernel_rfl) rfl (by decide) (by decide)) ?_
 rintro _ w ⟨b1,rfl,h⟩
 refine go h λw h=>?_
 refine jX h λb2 w h=>?_
 refine rz ?_
 refine⟨_,rfl,SH.mi ⟨some ⟨b1,0,none⟩,2,none,0,[(({kind:=1}:Ct.Node),{}),(({kind:=1}:Ct.Node),{})]⟩ rfl ?_⟩
 have h:=h.fr (.c r0 (.c r0 .n))
 have h:=SH.fI ({kind:=1}:Ct.Node) rfl rfl (SH.fI ({kind:=1}:Ct.Node) rfl rfl h.aF1)
 have h:=h.m8
 have h:=SH.nil 44 1 h
 exact h.fr (.c r2 (.c r2 (.c r0 (.c r0 .n))))
end Go.Q9
end
section
namespace Go.Q9
open Go.Proofs.Tryz
open Go.RowKit Go.E
attribute [local irreducible] gA wpS
def Sf(z:Nat×Ct.Ex):List Value:=[↑z.1]
theorem T4(z:Nat×Ct.Ex):(Sf z).length=1:=rfl
theorem Xz(t:Ct.aX):(dV t).length=2:=rfl
theorem Qq{j:Nat}(h:(j:Int)<18446744073709551616):IntKind.u64.wrap (j:Int)=j:=by rw[IntKind.wrap_u64];omega
theorem aNa{a b:Nat}(h:0<b):(a:Int).tmod (b:Int)=((a%b:Nat):Int):=by rw[Int.tmod_eq_emod_of_nonneg (by omega)];exact(Int.natCast_emod a b).symm
theorem mF{α:Type}{d:α}:∀{l:List α} {j:Nat},j<l.length->l.getD j d∈l
 |x::l,0,_=>.head _
 |x::l,j+1,h=>.tail _ (mF (by simpa using h))
structure Wq where
 pt:Option Addr:=none
 ct:Nat:=0
 px:Option Addr:=none
 cx:Nat:=0
def FE(b mb aI:Nat)(ts:List Ct.aX)(zs:List (Nat×Ct.Ex))(q:Wq):List As:=
 [bl b [↑mb,.int .u64 (aI:Int),.slice q.pt ts.length q.ct,.slice q.px zs.length q.cx] 32,aV 35 2 (.slice q.pt ts.length q.ct) ts.length (ts.flatMap dV),aV 81 1 (.slice q.px zs.length q.cx) zs.length (zs.flatMap Sf)]
def sL(b mb aI:Nat)(ts:List Ct.aX)(zs:List (Nat×Ct.Ex)):As:=ex λq:Wq=>se (FE b mb aI ts zs q)
variable{B w:World}{L:List As}
theorem _root_.Go.E.SH.wo{b mb aI:Nat}{ts:List Ct.aX}{zs:List (Nat×Ct.Ex)}(h:SH B w (sL b mb aI ts zs::L)):∃q,SH B w (FE b mb aI ts zs q++L):=by
 obtain⟨q,h⟩:=SH.ex (f:=λq:Wq=>Go.E.se (FE b mb aI ts zs q)) h
 exact⟨q,h.se⟩
theorem _root_.Go.E.SH.wi{b mb aI:Nat}{ts:List Ct.aX}{zs:List (Nat×Ct.Ex)}(q:Wq)(h:SH B w (FE b mb aI ts zs q++L)):SH B w (sL b mb aI ts zs::L):=
 SH.bX (f:=λq:Wq=>Go.E.se (FE b mb aI ts zs q)) q (SH.is h)
def aI3(c:Ct.Call):List Value:=[↑c.kind,↑c.aF.root,↑c.aF.readOnly,↑c.a,↑c.b,↑c.n,↑c.index,.int .u64 (c.hash:Int),.int .u64 (c.aI:Int),↑c.key,.int .u64 (c.value:Int),.int .u64 (c.expect:Int),↑c.bF,↑c.only,↑c.walk.started,.slice none 0 0,.slice none 0 0,↑c.answer.err,↑c.answer.found,.int .u64 (c.answer.value:Int),↑c.answer.key,↑c.answer.count,↑c.answer.ref,↑c.answer.aF.root,↑c.answer.aF.readOnly]
theorem Wj(b mb tb aI:Nat)(ts:List Ct.aX)(zs:List (Nat×Ct.Ex))(l:List Int)(kind:Int)(h:SH B w (sL b mb aI ts zs::nO tb l::L))(ht:0<ts.length)(hl:ts.length<=5)(hk7:7<=kind)(PX:kind<=12)(h0:(ts.getD 0 {}).readOnly=false):
  Calls prog 15 #[↑b,↑kind,↑tb] w λe w'=>∃c:Ct.Call,c.kind=kind/\c.aI=aI/\c.key.size<=8/\c.aF∈ts/\(c.kind=8\/c.kind=9\/c.kind=12->c.aF.readOnly=false)/\e=.returned (.agg (aI3 c).toArray)/\SH B w' (sL b mb aI ts zs::nO tb l::L):=by
 obtain⟨⟨twp,twc,xwp,xwc⟩,h⟩:=h.wo
 have h:SH B w (bl b ([↑mb,.int .u64 (aI:Int),.slice twp ts.length twc,.slice xwp zs.length xwc]) 32::aV 35 2 (.slice twp ts.length twc) ts.length (ts.flatMap dV)::aV 81 1 (.slice xwp zs.length xwc) zs.length (zs.flatMap Sf)::nO tb l::L):=h
 refine Kk (args:=[_,_,_]) func15 rfl ntmps15 rfl ?_
 refine sq<|rg<|sf (al h Ft)<|?_
 rintro _ w ⟨b1,rfl,h⟩
 refine xe<|nx<|?_
 refine sm (λe w=>∃cb:Nat,∃ky:ByteArray,∃jv:Nat,∃jx:Nat,∃jp:Nat,∃only:Bool,Sub 109 e (.c 0 ↑b (.c 1 ↑kind (.c 2 ↑tb (.c 6 ↑b1 (.c 7 ↑cb .n)))))/\SH B w (bl cb ([↑kind,.int .i64 0,↑false,.int .i64 0,.int .i64 0,.int .i64 0,.int .i64 0,.int .u64 0,.int .u64 (aI:Int),↑ky,.int .u64 (jv:Int),.int .u64 (jx:Int),↑(jp:Int),↑only,↑false,.slice none 0 0,.slice none 0 0,.int .i64 0,↑false,.int .u64 0,.string .empty,.int .i64 0,.int .i64 0,.int .i64 0,↑false]) 60::bl b1 ([.int .i64 0,.int .i64 0,↑false,.int .i64 0,.int .i64 0,.int .i64 0,.int .i64 0,.int .u64 0,.int .u64 0,.string .empty,.int .u64 0,.int .u64 0,.int .i64 0,↑false,↑false,.slice none 0 0,.slice none 0 0,.int .i64 0,↑false,.int .u64 0,.string .empty,.int .i64 0,.int .i64 0,.int .i64 0,↑false]) 60::bl b ([↑mb,.int .u64 (aI:Int),.slice twp ts.length twc,.slice xwp zs.length xwc]) 32::aV 35 2 (.slice twp ts.length twc) ts.length (ts.flatMap dV)::aV 81 1 (.slice xwp zs.length xwc) zs.length (zs.flatMap Sf)::nO tb l::L)/\(ky.size<=8)) ?_ ?_
 refine drT (F:=[bl b ([↑mb,.int .u64 (aI:Int),.slice twp ts.length twc,.slice xwp zs.length xwc]) 32]) (.op 0 true (.op 1 true (.op 2 true (.op 3 true (.op 4 true (.op 5 true (.op 7 true (.op 10 true (.op 13 true (.op 15 true (.fork 6 19 (.fork 8 19 (.op 9 true (.fork 11 19 (.op 12 true (.fork 14 19 (.fork 16 19 (.op 17 true (.op 18 true (.op 19 false (.op 20 false .stop)))) (.op 16 false (.op 17 true (.op 18 true (.op 20 false .stop))))) (.op 14 false (.op 16 false (.op 17 true (.op 18 true (.op 20 false .stop))))))) (.op 11 false (.op 12 true (.op 14 false (.op 16 false (.op 17 true (.op 18 true (.op 20 false .stop))))))))) (.op 8 false (.op 9 true (.op 11 false (.op 12 true (.op 14 false (.op 16 false (.op 17 true (.op 18 true (.op 20 false .stop)))))))))) (.op 6 false (.op 8 false (.op 9 true (.op 11 false (.op 12 true (.op 14 false (.op 16 false (.op 17 true (.op 18 true (.op 20 false .stop))))))))))))))))))))) (by kernel_rfl) h (λw h=>(hC (h.at_ a1) hN)) λw h=>tk (λW H=>mv rfl)<|tk (λW H=>mv rfl)<|tk (λW H=>nc rfl rfl)<|tk (λW H=>fa U' rfl)<|tk (λW H=>ld qD rfl (H.c a0 rfl))<|tk (λW H=>mv rfl)<|tk (λW H=>mv rfl)<|tk (λW H=>mv rfl)<|tk (λW H=>mv rfl)<|tk (λW H=>mv rfl)<|Zb ?_ ?_
 refine cs (ca eF rfl) ((aBm tb l (h.fr (.c r4 .n))).mono ?_)
 rintro _ w ⟨S6,oO,rfl,h⟩
 refine⟨_,rfl,(hC (h.at_ a2) hN),?_⟩
 refine Zb ?_ ?_
 refine cs (ca eF rfl) ((fZ tb l 6 (h.fr (.c r0 .n)) (by omega) (by omega)).mono ?_)
 rintro _ w ⟨j4,hj5,rfl,h⟩
 refine⟨_,rfl,(hC (h.at_ a2) hN),?_⟩
 refine tk (λW H=>O8 Uo Cj rfl (Qq (by omega)))<|Zb ?_ ?_
 refine cs (ca eF rfl) ((fZ tb l 6 (h.fr (.c r0 .n)) (by omega) (by omega)).mono ?_)
 rintro _ w ⟨j6,hj7,rfl,h⟩
 refine⟨_,rfl,(hC (h.at_ a2) hN),?_⟩
 refine tk (λW H=>O8 Uo Cj rfl (Qq (by omega)))<|Zb ?_ ?_
 refine cs (ca eF rfl) ((fZ tb l 4 (h.fr (.c r0 .n)) (by omega) (by omega)).mono ?_)
 rintro _ w ⟨j8,hj9,rfl,h⟩
 refine⟨_,rfl,(hC (h.at_ a2) hN),?_⟩
 refine Zb ?_ ?_
 refine cs (ca eF rfl) ((fZ tb l 3 (h.fr (.c r0 .n)) (by omega) (by omega)).mono ?_)
 rintro _ w ⟨j10,aZ5,rfl,h⟩
 refine⟨_,rfl,(hC (h.at_ a2) hN),?_⟩
 refine tk (λW H=>bi rfl rfl rfl)<|tk (λW H=>bd [↑kind,.int .i64 0,↑false,.int .i64 0,.int .i64 0,.int .i64 0,.int .i64 0,.int .u64 0,.int .u64 (aI:Int),↑S6,.int .u64 (j4:Int),.int .u64 (j6:Int),↑(j8:Int),.bool (((j10:Int):Int)==0),↑false,.slice none 0 0,.slice none 0 0,.int .i64 0,↑false,.int .u64 0,.string .empty,.int .i64 0,.int .i64 0,.int .i64 0,↑false] Xb rfl (by kernel_rfl))<|ff (al h Ft)<|?_
 rintro _ w ⟨ZM,rfl,h⟩
 refine⟨(hC (h.at_ a3) hN),?_⟩
 refine ff (so h rfl rfl rfl Aa rfl (.r (.r (.r (.r (.r (.r (.r (.r (.r (.r (.r (.r (.r (.r (.r (.r (.r (.r (.r (.r (.r (.r (.r (.r (.r .d))))))))))))))))))))))))) u0)<|?_
 rintro _ w h
 refine⟨(hC (h.at_ a3) hN),?_⟩
 refine xzS rfl<|nx<|?_
 exact⟨ZM,S6,j4,j6,j8,(((j10:Int):Int)==0),⟨rfl,rfl,rfl,rfl,rfl,trivial⟩,(h.fr (.c r0 (.c r1 (.c r1 (.c r1 (.c r1 (.c r0 .n))))))),oO⟩
 refine ff (al h Ft)<|?_
 rintro _ w ⟨QI,rfl,h⟩
 refine⟨(hC (h.at_ a3) hN),?_⟩
 refine cs (ca eF rfl) ((fZ tb l 3 (h.fr (.c r1 .n)) (by omega) (by omega)).mono ?_)
 rintro _ w ⟨j14,bCk,rfl,h⟩
 refine⟨_,rfl,(hC (h.at_ a3) hN),?_⟩
 refine tk (λW H=>bi rfl rfl rfl)<|tk (λW H=>bd [↑kind,.int .i64 0,↑false,.int .i64 0,.int .i64 0,.int .i64 0,.int .i64 0,.int .u64 0,.int .u64 (aI:Int),↑S6,.int .u64 (j4:Int),.int .u64 (j6:Int),↑(j8:Int),.bool (((j14:Int):Int)==0),↑false,.slice none 0 0,.slice none 0 0,.int .i64 0,↑false,.int .u64 0,.string .empty,.int .i64 0,.int .i64 0,.int .i64 0,↑false] Xb rfl (by kernel_rfl))<|ff (so h rfl rfl rfl Aa rfl (.r (.r (.r (.r (.r (.r (.r (.r (.r (.r (.r (.r (.r (.r (.r (.r (.r (.r (.r (.r (.r (.r (.r (.r (.r .d))))))))))))))))))))))))) u1)<|?_
 rintro _ w h
 refine⟨(hC (h.at_ a3) hN),?_⟩
 refine xzS rfl<|nx<|?_
 exact⟨QI,S6,j4,j6,j8,(((j14:Int):Int)==0),⟨rfl,rfl,rfl,rfl,rfl,trivial⟩,(h.fr (.c r1 (.c r1 (.c r1 (.c r1 (.c r1 (.c r0 .n))))))),oO⟩
 refine ff (al h Ft)<|?_
 rintro _ w ⟨b16,rfl,h⟩
 refine⟨(hC (h.at_ a3) hN),?_⟩
 refine cs (ca eF rfl) ((fZ tb l 4 (h.fr (.c r1 .n)) (by omega) (by omega)).mono ?_)
 rintro _ w ⟨j17,bAu,rfl,h⟩
 refine⟨_,rfl,(hC (h.at_ a3) hN),?_⟩
 refine cs (ca eF rfl) ((fZ tb l 3 (h.fr (.c r0 .n)) (by omega) (by omega)).mono ?_)
 rintro _ w ⟨j19,bDd,rfl,h⟩
 refine⟨_,rfl,(hC (h.at_ a3) hN),?_⟩
 refine tk (λW H=>bi rfl rfl rfl)<|tk (λW H=>bd [↑kind,.int .i64 0,↑false,.int .i64 0,.int .i64 0,.int .i64 0,.int .i64 0,.int .u64 0,.int .u64 (aI:Int),↑S6,.int .u64 (j4:Int),.int .u64 (j6:Int),↑(j17:Int),.bool (((j19:Int):Int)==0),↑false,.slice none 0 0,.slice none 0 0,.int .i64 0,↑false,.int .u64 0,.string .empty,.int .i64 0,.int .i64 0,.int .i64 0,↑false] Xb rfl (by kernel_rfl))<|ff (so h rfl rfl rfl Aa rfl (.r (.r (.r (.r (.r (.r (.r (.r (.r (.r (.r (.r (.r (.r (.r (.r (.r (.r (.r (.r (.r (.r (.r (.r (.r .d))))))))))))))))))))))))) u1)<|?_
 rintro _ w h
 refine⟨(hC (h.at_ a3) hN),?_⟩
 refine xzS rfl<|nx<|?_
 exact⟨b16,S6,j4,j6,j17,(((j19:Int):Int)==0),⟨rfl,rfl,rfl,rfl,rfl,trivial⟩,(h.fr (.c r1 (.c r1 (.c r1 (.c r1 (.c r1 (.c r0 .n))))))),oO⟩
 refine ff (al h Ft)<|?_
 rintro _ w ⟨b21,rfl,h⟩
 refine⟨(hC (h.at_ a3) hN),?_⟩
 refine cs (ca eF rfl) ((fZ tb l 6 (h.fr (.c r1 .n)) (by omega) (by omega)).mono ?_)
 rintro _ w ⟨j22,aZo,rfl,h⟩
 refine⟨_,rfl,(hC (h.at_ a3) hN),?_⟩
 refine tk (λW H=>O8 Uo Cj rfl (Qq (by omega)))<|cs (ca eF rfl) ((fZ tb l 4 (h.fr (.c r0 .n)) (by omega) (by omega)).mono ?_)
 rintro _ w ⟨j24,aOx,rfl,h⟩
 refine⟨_,rfl,(hC (h.at_ a3) hN),?_⟩
 refine cs (ca eF rfl) ((fZ tb l 3 (h.fr (.c r0 .n)) (by omega) (by omega)).mono ?_)
 rintro _ w ⟨j26,aZ6,rfl,h⟩
 refine⟨_,rfl,(hC (h.at_ a3) hN),?_⟩
 refine tk (λW H=>bi rfl rfl rfl)<|tk (λW H=>bd [↑kind,.int .i64 0,↑false,.int .i64 0,.int .i64 0,.int .i64 0,.int .i64 0,.int .u64 0,.int .u64 (aI:Int),↑S6,.int .u64 (j4:Int),.int .u64 (j22:Int),↑(j24:Int),.bool (((j26:Int):Int)==0),↑false,.slice none 0 0,.slice none 0 0,.int .i64 0,↑false,.int .u64 0,.string .empty,.int .i64 0,.int .i64 0,.int .i64 0,↑false] Xb rfl (by kernel_rfl))<|ff (so h rfl rfl rfl Aa rfl (.r (.r (.r (.r (.r (.r (.r (.r (.r (.r (.r (.r (.r (.r (.r (.r (.r (.r (.r (.r (.r (.r (.r (.r (.r .d))))))))))))))))))))))))) u1)<|?_
 rintro _ w h
 refine⟨(hC (h.at_ a3) hN),?_⟩
 refine xzS rfl<|nx<|?_
 exact⟨b21,S6,j4,j22,j24,(((j26:Int):Int)==0),⟨rfl,rfl,rfl,rfl,rfl,trivial⟩,(h.fr (.c r1 (.c r1 (.c r1 (.c r1 (.c r1 (.c r0 .n))))))),oO⟩
 refine ff (al h Ft)<|?_
 rintro _ w ⟨P7,rfl,h⟩
 refine⟨(hC (h.at_ a3) hN),?_⟩
 refine cs (ca eF rfl) ((fZ tb l 6 (h.fr (.c r1 .n)) (by omega) (by omega)).mono ?_)
 rintro _ w ⟨j29,bDr,rfl,h⟩
 refine⟨_,rfl,(hC (h.at_ a3) hN),?_⟩
 refine tk (λW H=>O8 Uo Cj rfl (Qq (by omega)))<|cs (ca eF rfl) ((fZ tb l 6 (h.fr (.c r0 .n)) (by omega) (by omega)).mono ?_)
 rintro _ w ⟨j31,bFh,rfl,h⟩
 refine⟨_,rfl,(hC (h.at_ a3) hN),?_⟩
 refine tk (λW H=>O8 Uo Cj rfl (Qq (by omega)))<|cs (ca eF rfl) ((fZ tb l 4 (h.fr (.c r0 .n)) (by omega) (by omega)).mono ?_)
 rintro _ w ⟨j33,bDl,rfl,h⟩
 refine⟨_,rfl,(hC (h.at_ a3) hN),?_⟩
 refine cs (ca eF rfl) ((fZ tb l 3 (h.fr (.c r0 .n)) (by omega) (by omega)).mono ?_)
 rintro _ w ⟨j35,bFm,rfl,h⟩
 refine⟨_,rfl,(hC (h.at_ a3) hN),?_⟩
 refine tk (λW H=>bi rfl rfl rfl)<|tk (λW H=>bd [↑kind,.int .i64 0,↑false,.int .i64 0,.int .i64 0,.int .i64 0,.int .i64 0,.int .u64 0,.int .u64 (aI:Int),↑S6,.int .u64 (j29:Int),.int .u64 (j31:Int),↑(j33:Int),.bool (((j35:Int):Int)==0),↑false,.slice none 0 0,.slice none 0 0,.int .i64 0,↑false,.int .u64 0,.string .empty,.int .i64 0,.int .i64 0,.int .i64 0,↑false] Xb rfl (by kernel_rfl))<|ff (so h rfl rfl rfl Aa rfl (.r (.r (.r (.r (.r (.r (.r (.r (.r (.r (.r (.r (.r (.r (.r (.r (.r (.r (.r (.r (.r (.r (.r (.r (.r .d))))))))))))))))))))))))) u1)<|?_
 rintro _ w h
 refine⟨(hC (h.at_ a3) hN),?_⟩
 refine xzS rfl<|nx<|?_
 exact⟨P7,S6,j29,j31,j33,(((j35:Int):Int)==0),⟨rfl,rfl,rfl,rfl,rfl,trivial⟩,(h.fr (.c r1 (.c r1 (.c r1 (.c r1 (.c r1 (.c r0 .n))))))),oO⟩
 refine ff (al h Ft)<|?_
 rintro _ w ⟨b37,rfl,h⟩
 refine⟨(hC (h.at_ a2) hN),?_⟩
 refine cs (ca eF rfl) ((aBm tb l (h.fr (.c r5 .n))).mono ?_)
 rintro _ w ⟨aLn,aPe,rfl,h⟩
 refine⟨_,rfl,(hC (h.at_ a3) hN),?_⟩
 refine cs (ca eF rfl) ((fZ tb l 6 (h.fr (.c r0 .n)) (by omega) (by omega)).mono ?_)
 rintro _ w ⟨j40,aRs,rfl,h⟩
 refine⟨_,rfl,(hC (h.at_ a3) hN),?_⟩
 refine tk (λW H=>O8 Uo Cj rfl (Qq (by omega)))<|cs (ca eF rfl) ((fZ tb l 6 (h.fr (.c r0 .n)) (by omega) (by omega)).mono ?_)
 rintro _ w ⟨j42,bCb,rfl,h⟩
 refine⟨_,rfl,(hC (h.at_ a3) hN),?_⟩
 refine tk (λW H=>O8 Uo Cj rfl (Qq (by omega)))<|cs (ca eF rfl) ((fZ tb l 4 (h.fr (.c r0 .n)) (by omega) (by omega)).mono ?_)
 rintro _ w ⟨j44,bCd,rfl,h⟩
 refine⟨_,rfl,(hC (h.at_ a3) hN),?_⟩
 refine cs (ca eF rfl) ((fZ tb l 3 (h.fr (.c r0 .n)) (by omega) (by omega)).mono ?_)
 rintro _ w ⟨j46,aZ1,rfl,h⟩
 refine⟨_,rfl,(hC (h.at_ a3) hN),?_⟩
 refine tk (λW H=>bi rfl rfl rfl)<|tk (λW H=>bd [↑kind,.int .i64 0,↑false,.int .i64 0,.int .i64 0,.int .i64 0,.int .i64 0,.int .u64 0,.int .u64 (aI:Int),↑aLn,.int .u64 (j40:Int),.int .u64 (j42:Int),↑(j44:Int),.bool (((j46:Int):Int)==0),↑false,.slice none 0 0,.slice none 0 0,.int .i64 0,↑false,.int .u64 0,.string .empty,.int .i64 0,.int .i64 0,.int .i64 0,↑false] Xb rfl (by kernel_rfl))<|ff (so h rfl rfl rfl Aa rfl (.r (.r (.r (.r (.r (.r (.r (.r (.r (.r (.r (.r (.r (.r (.r (.r (.r (.r (.r (.r (.r (.r (.r (.r (.r .d))))))))))))))))))))))))) u1)<|?_
 rintro _ w h
 refine⟨(hC (h.at_ a3) hN),?_⟩
 refine xzS rfl<|nx<|?_
 exact⟨b37,aLn,j40,j42,j44,(((j46:Int):Int)==0),⟨rfl,rfl,rfl,rfl,rfl,trivial⟩,(h.fr (.c r1 (.c r1 (.c r1 (.c r1 (.c r1 (.c r0 .n))))))),aPe⟩
 rintro e w ⟨cb,ky,jv,jx,jp,only,hE,h,P8⟩
 refine C.sub hE ?_
 refine sq<|rg<|st (mv rfl)<|st (bi rfl rfl rfl)<|st (mv rfl)<|gT rfl rfl (beq_eq_false_iff_ne.2 (by omega))<|st (mv rfl)<|gT rfl rfl (beq_eq_false_iff_ne.2 (by omega))<|st (bi rfl rfl rfl)<|st (pF rfl (beq_eq_false_iff_ne.2 (by omega)) rfl)<|st (sg rfl)<|xe<|nx<|?_
 refine sm (λe w=>∃wr:Bool,Sub 109 e (.c 0 ↑b (.c 2 ↑tb (.c 6 ↑b1 (.c 7 ↑cb (.c 8 (.bool ((kind:Int)==13)) (.c 9 ↑wr .n))))))/\SH B w (bl cb ([↑kind,.int .i64 0,↑false,.int .i64 0,.int .i64 0,.int .i64 0,.int .i64 0,.int .u64 0,.int .u64 (aI:Int),↑ky,.int .u64 (jv:Int),.int .u64 (jx:Int),↑(jp:Int),↑only,↑false,.slice none 0 0,.slice none 0 0,.int .i64 0,↑false,.int .u64 0,.string .empty,.int .i64 0,.int .i64 0,.int .i64 0,↑false]) 60::bl b1 ([.int .i64 0,.int .i64 0,↑false,.int .i64 0,.int .i64 0,.int .i64 0,.int .i64 0,.int .u64 0,.int .u64 0,.string .empty,.int .u64 0,.int .u64 0,.int .i64 0,↑false,↑false,.slice none 0 0,.slice none 0 0,.int .i64 0,↑false,.int .u64 0,.string .empty,.int .i64 0,.int .i64 0,.int .i64 0,↑false]) 60::bl b ([↑mb,.int .u64 (aI:Int),.slice twp ts.length twc,.slice xwp zs.length xwc]) 32::aV 35 2 (.slice twp ts.length twc) ts.length (ts.flatMap dV)::aV 81 1 (.slice xwp zs.length xwc) zs.length (zs.flatMap Sf)::nO tb l::L)/\(wr=false->¬(kind=8\/kind=9\/kind=12))) ?_ ?_
 refine rg<|st (mv rfl)<|st (bi rfl rfl rfl)<|st (mv rfl)<|?_
 rcases dQ ((kind:Int)==8)with tT|tT
 refine gF rfl rfl tT<|gF rfl rfl tT<|st (pT rfl tT rfl)<|st (mv rfl)<|gF rfl rfl rfl<|gF rfl rfl rfl<|st (pT rfl rfl rfl)<|st (mv rfl)<|gF rfl rfl rfl<|gF rfl rfl rfl<|st (pT rfl rfl rfl)<|st (sg rfl)<|xe<|nx<|?_
 exact⟨true,⟨rfl,rfl,rfl,rfl,rfl,rfl,trivial⟩,h,(λhz=>Bool.noConfusion hz)⟩
 refine gT rfl rfl tT<|st (mv rfl)<|gT rfl rfl tT<|st (bi rfl rfl rfl)<|st (pF rfl tT rfl)<|st (mv rfl)<|?_
 rcases dQ ((kind:Int)==9)with Mn|Mn
 refine gF rfl rfl Mn<|gF rfl rfl Mn<|st (pT rfl Mn rfl)<|st (mv rfl)<|gF rfl rfl rfl<|gF rfl rfl rfl<|st (pT rfl rfl rfl)<|st (sg rfl)<|xe<|nx<|?_
 exact⟨true,⟨rfl,rfl,rfl,rfl,rfl,rfl,trivial⟩,h,(λhz=>Bool.noConfusion hz)⟩
 refine gT rfl rfl Mn<|st (mv rfl)<|gT rfl rfl Mn<|st (bi rfl rfl rfl)<|st (pF rfl Mn rfl)<|st (mv rfl)<|?_
 rcases dQ ((kind:Int)==12)with Hu|Hu
 refine gF rfl rfl Hu<|gF rfl rfl Hu<|st (pT rfl Hu rfl)<|st (sg rfl)<|xe<|nx<|?_
 exact⟨true,⟨rfl,rfl,rfl,rfl,rfl,rfl,trivial⟩,h,(λhz=>Bool.noConfusion hz)⟩
 refine gT rfl rfl Hu<|st (mv rfl)<|gT rfl rfl Hu<|st (bi rfl rfl rfl)<|st (pF rfl Hu rfl)<|st (sg rfl)<|xe<|nx<|?_
 exact⟨((kind:Int)==4),⟨rfl,rfl,rfl,rfl,rfl,rfl,trivial⟩,h,(λ_ hc=>by have aW9:=bM tT;have aWd:=bM Mn;have aVz:=bM Hu;omega)⟩
 rintro e w ⟨wr,hE,h,hwr⟩
 refine C.sub hE ?_
 refine sq<|rg<|st (mv rfl)<|st (mv rfl)<|st (nc rfl rfl)<|st (fa wZ rfl)<|st (ld Rc rfl (h.c a2 rfl))<|st (ln Qo rfl rfl)<|cl (ca eF rfl) ((fZ tb l (ts.length:Int) (h.fr (.c r5 .n)) (by omega) (by omega)).mono ?_)
 rintro _ w ⟨j57,bAb,rfl,h⟩
 refine⟨_,rfl,?_⟩
 refine st (sg rfl)<|xe<|nx<|sq<|sq<|rg<|st (sg rfl)<|xe<|nx<|bk<|?_
 refine lp (α:=Nat×Ct.aX) (λρ=>(.c 0 ↑b (.c 6 ↑b1 (.c 7 ↑cb (.c 8 (.bool ((kind:Int)==13)) (.c 9 ↑wr (.c 10 ↑(j57:Int) (.c 11 (.int .i64 (ρ.1:Int)) .n)))))))) (λρ w=>SH B w (bl cb ([↑kind,.int .i64 ρ.2.root,.bool ρ.2.readOnly,.int .i64 0,.int .i64 0,.int .i64 0,.int .i64 0,.int .u64 0,.int .u64 (aI:Int),↑ky,.int .u64 (jv:Int),.int .u64 (jx:Int),↑(jp:Int),↑only,↑false,.slice none 0 0,.slice none 0 0,.int .i64 0,↑false,.int .u64 0,.string .empty,.int .i64 0,.int .i64 0,.int .i64 0,↑false]) 60::nO tb l::bl b1 ([.int .i64 0,.int .i64 0,↑false,.int .i64 0,.int .i64 0,.int .i64 0,.int .i64 0,.int .u64 0,.int .u64 0,.string .empty,.int .u64 0,.int .u64 0,.int .i64 0,↑false,↑false,.slice none 0 0,.slice none 0 0,.int .i64 0,↑false,.int .u64 0,.string .empty,.int .i64 0,.int .i64 0,.int .i64 0,↑false]) 60::bl b ([↑mb,.int .u64 (aI:Int),.slice twp ts.length twc,.slice xwp zs.length xwc]) 32::aV 35 2 (.slice twp ts.length twc) ts.length (ts.flatMap dV)::aV 81 1 (.slice xwp zs.length xwc) zs.length (zs.flatMap Sf)::L)/\(ρ.1<=ts.length)) (λρ=>ts.length-ρ.1) (0,({}:Ct.aX)) ⟨rfl,rfl,rfl,rfl,rfl,rfl,rfl,trivial⟩ ⟨(h.fr (.c r1 (.c r0 (.c r0 (.c r0 (.c r0 (.c r0 .n))))))),(bZ _)⟩ ?_
 rintro⟨i,trx⟩ w ⟨h,hi⟩
 refine sq<|sq<|rg<|st (mv rfl)<|st (mv rfl)<|st (nc rfl rfl)<|st (fa wZ rfl)<|st (ld Rc rfl (h.c a3 rfl))<|st (ln Qo rfl rfl)<|st (bi rfl rfl rfl)<|xe<|nx<|?_
 rcases dQ (decide (((i:Int):Int)<(ts.length:Int)))with aAm|aAm
 have aS5:=dH aAm
 refine ct rfl aAm<|sk<|nx<|sq<|bk<|sq<|?_
 have bDm:=Nat.mod_lt (j57+i) ht
 obtain⟨b61,rfl⟩:=h.fp a4 (by omega)
 refine fD [1,3,5,7,9,11,13,15,17,19,21,23,25,27,29,31,32] (by kernel_rfl) h (.c r3 (.c r3 .n)) λw h=>tk (λW H=>mv rfl)<|tk (λW H=>nc rfl rfl)<|tk (λW H=>fa wZ rfl)<|tk (λW H=>ld Rc rfl (H.c a0 rfl))<|tk (λW H=>mv rfl)<|tk (λW H=>mv rfl)<|tk (λW H=>bw rfl rfl (iR (c:=((j57+i:Nat):Int)) (by omega) (by omega) (by omega)))<|tk (λW H=>mv rfl)<|tk (λW H=>nc rfl rfl)<|tk (λW H=>fa wZ rfl)<|tk (λW H=>ld Rc rfl (H.c a0 rfl))<|tk (λW H=>ln Qo rfl rfl)<|tk (λW H=>brw rfl rfl (by omega) (aNa (by omega)))<|tk (λW H=>ix (j:=(j57+i)%ts.length) Qo Kc rfl rfl (by omega))<|tk (λW H=>kB rfl ((H.ro a1).x Xz (by decide) (by omega) {}) LZ)<|tk (λW H=>fa Gh rfl)<|ff (so h rfl rfl rfl Kc rfl (.s (.r (.r .d))) u0)<|?_
 rintro _ w h
 refine⟨h.hs (.c r3 (.c r3 .n)),?_⟩
 refine xz<|nx<|sq<|rg<|st (fa Gh rfl)<|st (fa BQ rfl)<|st (ld Cx rfl (h.c a0 rfl))<|st (mv rfl)<|?_
 rcases dQ (ts.getD ((j57+i)%ts.length) {}).readOnly with Ek|Ek
 refine gT rfl rfl Ek<|st (mv rfl)<|gT rfl rfl Ek<|st (nt rfl)<|st (pT rfl Ek rfl)<|st (mv rfl)<|?_
 rcases dQ (!wr)with yB|yB
 have aAk:wr=false:=by simpa using yB
 refine gF rfl rfl yB<|gF rfl rfl yB<|gF rfl rfl yB<|gF rfl rfl yB<|gF rfl rfl yB<|gU rfl rfl<|gU rfl rfl<|gF rfl rfl yB<|st (pT rfl yB rfl)<|xe<|nx<|cT rfl<|sq<|rg<|st (kB rfl (eH (h.b a0)) wV)<|sf (so h rfl rfl rfl Aa rfl (.r (.r (.r (.r (.r (.r (.r (.r (.r (.r (.r (.r (.r (.r (.r (.r (.r (.r (.r (.r (.r (.r (.r (.r (.r .d))))))))))))))))))))))))) u2)<|?_
 rintro _ w h
 refine xe<|nx<|rt<|bt<|tr<|tr<|bt<|tr<|?_
 refine rr (cD results15 rfl (h.b a2) wV)<|?_
 refine⟨({kind:=kind,aF:=(ts.getD ((j57+i)%ts.length) {}),aI:=aI,key:=ky,value:=jv,expect:=jx,bF:=jp,only:=only}:Ct.Call),rfl,rfl,P8,?_,?_,rfl,(by have h:=((h.fr (.c r0 (.c r1 .n))).drop.drop.fr (.c r1 (.c r1 (.c r1 (.c r0 .n)))));exact SH.wi ⟨some ⟨b61,0,none⟩,twc,xwp,xwc⟩ h)⟩
 exact mF (Nat.mod_lt _ ht)
 exact λhc=>absurd hc (hwr (by simpa using aAk))
 have aFu:wr=true:=by simpa using yB
 refine gT rfl rfl yB<|st (fa Gh rfl)<|gT rfl rfl yB<|st (fa BQ rfl)<|gT rfl rfl yB<|st (ld Cx rfl (h.c a0 rfl))<|gT rfl rfl yB<|st (nt rfl)<|gT rfl rfl yB<|st (mv rfl)<|gF rfl rfl (tW Ek)<|gF rfl rfl (tW Ek)<|gT rfl rfl yB<|st (pF rfl (tW Ek) rfl)<|st (pF rfl yB rfl)<|xe<|nx<|cF rfl<|sk<|bn<|nx<|rg<|st (mv rfl)<|st (bw rfl rfl (iR (c:=((i+1:Nat):Int)) (by omega) (by omega) (by omega)))<|st (sg rfl)<|xe<|nx<|?_
 exact⟨((i+1),(ts.getD ((j57+i)%ts.length) {})),⟨rfl,rfl,rfl,rfl,rfl,rfl,rfl,trivial⟩,⟨h,by(try dsimp only);omega⟩,by(try dsimp only);omega⟩
 refine gF rfl rfl Ek<|gF rfl rfl Ek<|st (pF rfl Ek rfl)<|st (mv rfl)<|gT rfl rfl rfl<|st (fa Gh rfl)<|gT rfl rfl rfl<|st (fa BQ rfl)<|gT rfl rfl rfl<|st (ld Cx rfl (h.c a0 rfl))<|gT rfl rfl rfl<|st (nt rfl)<|gT rfl rfl rfl<|st (mv rfl)<|gT rfl rfl (wY Ek)<|st (mv rfl)<|gT rfl rfl (wY Ek)<|st (nt rfl)<|gT rfl rfl rfl<|st (pT rfl (wY Ek) rfl)<|st (pF rfl rfl rfl)<|xe<|nx<|ct rfl (wY (beq_eq_false_iff_ne.2 (by omega)))<|sq<|rg<|st (kB rfl (eH (h.b a0)) wV)<|sf (so h rfl rfl rfl Aa rfl (.r (.r (.r (.r (.r (.r (.r (.r (.r (.r (.r (.r (.r (.r (.r (.r (.r (.r (.r (.r (.r (.r (.r (.r (.r .d))))))))))))))))))))))))) u2)<|?_
 rintro _ w h
 refine xe<|nx<|rt<|bt<|tr<|tr<|bt<|tr<|?_
 refine rr (cD results15 rfl (h.b a2) wV)<|?_
 refine⟨({kind:=kind,aF:=(ts.getD ((j57+i)%ts.length) {}),aI:=aI,key:=ky,value:=jv,expect:=jx,bF:=jp,only:=only}:Ct.Call),rfl,rfl,P8,?_,?_,rfl,(by have h:=((h.fr (.c r0 (.c r1 .n))).drop.drop.fr (.c r1 (.c r1 (.c r1 (.c r0 .n)))));exact SH.wi ⟨some ⟨b61,0,none⟩,twc,xwp,xwc⟩ h)⟩
 exact mF (Nat.mod_lt _ ht)
 exact λ_=>Ek
 refine cf rfl aAm<|xt<|tx<|tx<|be<|nx<|sq<|rg<|st (mv rfl)<|st (nc rfl rfl)<|st (fa wZ rfl)<|st (ld Rc rfl (h.c a3 rfl))<|?_
 obtain⟨b67,rfl⟩:=h.fp a4 (by omega)
 refine st (ix (j:=0) Qo Kc rfl rfl (by omega))<|st (kB rfl ((h.ro a4).x Xz (by decide) (j:=0) (by omega) {}) LZ)<|st (fa Gh rfl)<|sf (so h rfl rfl rfl Kc rfl (.s (.r (.r .d))) u0)<|?_
 rintro _ w h
 refine xe<|nx<|sq<|rg<|st (kB rfl (eH (h.b a0)) wV)<|sf (so h rfl rfl rfl Aa rfl (.r (.r (.r (.r (.r (.r (.r (.r (.r (.r (.r (.r (.r (.r (.r (.r (.r (.r (.r (.r (.r (.r (.r (.r (.r .d))))))))))))))))))))))))) u2)<|?_
 rintro _ w h
 refine xe<|nx<|rt<|?_
 refine rr (cD results15 rfl (h.b a2) wV)<|?_
 refine⟨({kind:=kind,aF:=(ts.getD 0 {}),aI:=aI,key:=ky,value:=jv,expect:=jx,bF:=jp,only:=only}:Ct.Call),rfl,rfl,P8,?_,?_,rfl,(by have h:=((h.fr (.c r0 (.c r1 .n))).drop.drop.fr (.c r1 (.c r1 (.c r1 (.c r0 .n)))));exact SH.wi ⟨some ⟨b67,0,none⟩,twc,xwp,xwc⟩ h)⟩
 exact mF ht
 exact λ_=>h0
end Go.Q9
end
section
namespace Go.Q9
open Go.Proofs.Tryz
open Go.RowKit Go.E
attribute [local irreducible] gA wpS Go.E.X XS C kV lL fin Y U F Ca kU bl rb aV bS ex ce pu sK gK bK zK gG fE cZ gY mA rQ
def Xd(zs:List (Nat×Ct.Ex))(b:Nat)(e:Ct.Ex):List (Nat×Ct.Ex):=if e.done=true then zs else zs++[(b,e)]
def EW(ts:List Ct.aX)(e:Ct.Ex):List Ct.aX:=if e.done=true/\0<e.result.aF.root/\ts.length<5 then ts++[e.result.aF]else ts
variable{B w:World}{L:List As}
theorem IN(b mb xb aI:Nat)(ts:List Ct.aX)(zs:List (Nat×Ct.Ex))(x:Ct.X)(h:SH B w (sL b mb aI ts zs::XA xb mb x::lU mb zs::L))(ht:ts.length<=5)(hz:zs.length<=100):
  Calls prog 69 #[↑b,↑xb] w λe w'=>e=.returned (.tuple #[])/\SH B w' (sL b mb aI (EW ts x.e) (Xd zs xb x.e)::lU mb (Xd zs xb x.e)::dX mb x.s::L):=by
 obtain⟨⟨twp,twc,xwp,xwc⟩,h⟩:=h.wo
 have h:SH B w (bl b ([↑mb,.int .u64 (aI:Int),.slice twp ts.length twc,.slice xwp zs.length xwc]) 32::aV 35 2 (.slice twp ts.length twc) ts.length (ts.flatMap dV)::aV 81 1 (.slice xwp zs.length xwc) zs.length (zs.flatMap Sf)::XA xb mb x::lU mb zs::L):=h
 refine cN func69 ntmps69 h λw h=>?_
 refine bQ (JM _ _ _ h.to) λw h=>?_
 refine qc h (λdF w h=>?_) λdF w h=>?_
 have cO:x.e.done=false:=by simpa using dF
 refine sf (bu [↑xb] h gB.h Ss.h rfl (by kernel_rfl) rfl (by decide) (by decide)) ?_
 rintro _ w ⟨b3,rfl,h⟩
 refine sf (ap h JA rfl aIq rfl (by decide) rfl rfl (λ_=>u4) (h.ro a0) (by simp[Value.oneCell']) rfl (jM (enc:=Sf) _ (xb,x.e)) (by unfold maxLen;omega) (by omega))<|?_
 rintro _ w ⟨p4,c5,rfl,h⟩
 refine st (nc rfl rfl)<|st (fa Hi rfl)<|?_
 refine sf (so h rfl rfl rfl aId rfl (.s (.s (.s (.r .d)))) u2)<|?_
 rintro _ w h
 refine xe<|?_
 refine rn (wC rfl) ?_
 rw[show Xd zs xb x.e=zs++[(xb,x.e)]from if_neg (by rw[cO];decide),show EW ts x.e=ts from if_neg (by rw[cO];simp)]
 have h:=SH.aHx (h.drop.fr (.c r0 (.c r3 (.c r0 (.c r0 (.c r0 .n))))))
 refine⟨rfl,SH.wi ⟨twp,twc,p4,c5⟩ ?_⟩
 unfold FE;dsimp only;rw[cV,fR]
 exact h.fr (.c r2 (.c r2 (.c r2 .n)))
 have dJ:x.e.done=true:=by simpa using dF
 refine bQ (LM _ _ _ h.to) λw h=>?_
 refine jA h λb7 w h=>?_
 refine qg h (λfG w h=>?_) λfG w h=>?_
 have CY:=dH fG
 refine go h λw h=>?_
 refine qc h (λdG w h=>?_) λdG w h=>?_
 have N8:=dH dG
 refine go h λw h=>?_
 refine DD (F:=[bl b ([↑mb,.int .u64 (aI:Int),.slice twp ts.length twc,.slice xwp zs.length xwc]) 32,bl b7 (Bn x.e.result) 49]) [(true,[1,3,5,7,9,11,13,14,16,19,21]),(false,[22])] (by kernel_rfl) h (λw h=>(hC (h.at_ a2) (hC (h.at_ a0) hN))) λw h=>go h λw h=>?_
 refine tk (λW H=>kB (cs:=[↑x.e.result.aF.root,↑x.e.result.aF.readOnly]) rfl (hX (H.b a1) 6 rfl) Row.h)<|go h λw h=>?_
 refine ff (bu [↑x.e.result.aF.root,↑x.e.result.aF.readOnly] h gB.h Ss.h rfl (by kernel_rfl) rfl (by decide) (by decide)) ?_
 rintro _ w ⟨ZM,rfl,h⟩
 refine gz h λw h=>?_
 refine ff (ap h Qo rfl aBg rfl (by decide) rfl rfl (λ_=>u4) (h.ro a0) (by simp[Value.oneCell']) rfl (jM (enc:=dV) _ x.e.result.aF) (by unfold maxLen;omega) (by omega))<|?_
 rintro _ w ⟨p13,c14,rfl,h⟩
 refine⟨(hC (h.at_ a3) (hC (h.at_ a1) hN)),?_⟩
 refine tk (λW H=>nc rfl rfl)<|tk (λW H=>fa wZ rfl)<|KR<|?_
 refine ff (so h rfl rfl rfl aB1 rfl (.s (.s (.r .d))) u3)<|?_
 rintro _ w h
 refine⟨trivial,?_⟩
 refine xz<|?_
 refine go h λw h=>?_
 refine rn (wC rfl) ?_
 rw[show Xd zs xb x.e=zs from if_pos dJ,show EW ts x.e=ts++[x.e.result.aF]from if_pos ⟨dJ,by omega,by omega⟩]
 have h:=SH.MZ (h.drop.drop.fr (.c r0 (.c r3 (.c r0 (.c r0 (.c r0 .n))))))
 refine⟨rfl,SH.wi ⟨p13,c14,xwp,xwc⟩ ?_⟩
 unfold FE;dsimp only;rw[cV,fR]
 exact h.to.fr (.c r2 (.c r2 (.c r2 .n)))
 have JS:=dR dG
 refine go h λw h=>?_
 refine rn (wC rfl) ?_
 rw[show Xd zs xb x.e=zs from if_pos dJ,show EW ts x.e=ts from if_neg (λhz=>by have:=hz.2;omega)]
 have h:=SH.MZ (h.drop.fr (.c r0 (.c r3 (.c r0 (.c r0 (.c r0 .n))))))
 refine⟨rfl,SH.wi ⟨twp,twc,xwp,xwc⟩ ?_⟩
 exact h.to.fr (.c r2 (.c r2 (.c r2 .n)))
 have JW:=dR fG
 refine go h λw h=>?_
 refine rn (wC rfl) ?_
 rw[show Xd zs xb x.e=zs from if_pos dJ,show EW ts x.e=ts from if_neg (λhz=>by have:=hz.2;omega)]
 have h:=SH.MZ (h.drop.fr (.c r0 (.c r3 (.c r0 (.c r0 (.c r0 .n))))))
 refine⟨rfl,SH.wi ⟨twp,twc,xwp,xwc⟩ ?_⟩
 exact h.to.fr (.c r2 (.c r2 (.c r2 .n)))
end Go.Q9
end
