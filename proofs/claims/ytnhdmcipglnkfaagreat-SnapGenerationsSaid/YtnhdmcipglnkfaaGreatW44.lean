/- Parts of a proof: Q8, Tg, Th. -/
import Derived.Test.YtnhdmcipglnkfaaGreatW43
set_option linter.unusedVariables false
set_option linter.unusedSimpArgs false
set_option maxRecDepth 100000
set_option maxHeartbeats 4000000
section
namespace Go.Q9
open Go.Proofs.Tryz
open Go.RowKit Go.E Go.Ct
attribute [local irreducible] gB wpS Go.E.X XS C jU kP fin Y U F Ca jT bl rb aU bV ex ce pu sK gK bK zK gM fO dH gP nE rD
def Ct.PP(s:Ct.St):Ct.St×Ct.bC:=
 let a:=s.alloc {kind:=3} 0
 let g:=a.1.bS
 let m:=g.1.alloc {kind:=2,gen:=g.2} a.2
 let c:=m.1.aV m.2
 (c.1,{root:=c.2})
variable{B w:World}{L:List As}
theorem rW(mb:Nat)(s:Ct.St)(c:Ct.Call)(F:Nat)(h:SH B w (cR mb s::L))(k:Ct.Ok 60 (Ct.cD 0 (⟨{call:=c},s⟩:Ct.X)))(hx:(Ct.cD 0 (⟨{call:=c},s⟩:Ct.X)).left<F)(hF:F<=100000000000)(hm:c.aI<18446744073709551616)(hky:c.key.size<=9223372036854775807)(hk7:7<=c.kind)(hk12:c.kind<=12\/c.kind=14):
  Calls prog 68 #[↑mb,.agg [↑c.kind,↑c.aE.root,↑c.aE.readOnly,↑c.a,↑c.b,↑c.n,↑c.index,.int .u64 (c.hash:Int),.int .u64 (c.aI:Int),↑c.key,.int .u64 (c.value:Int),.int .u64 (c.expect:Int),↑c.bF,↑c.only,↑c.walk.started,.slice none 0 0,.slice none 0 0,↑c.answer.err,↑c.answer.found,.int .u64 (c.answer.value:Int),↑c.answer.key,↑c.answer.count,↑c.answer.ref,↑c.answer.aE.root,↑c.answer.aE.readOnly].toArray] w λe w'=>∃xb,e=.returned (.pointer (some ⟨xb,0,none⟩))/\SH B w' (XA xb mb (Ct.bX (Ct.bY c F) 0 (⟨{call:=c},s⟩:Ct.X))::L)/\Ct.Ok 50 (Ct.bX (Ct.bY c F) 0 (⟨{call:=c},s⟩:Ct.X)):=by
 refine bZ func68 ntmps68 h λw h=>?_
 refine jX h λb1 w h=>?_
 refine jX h λb2 w h=>?_
 have h:=h.fr (.c r0 (.c r1 .n))
 have h:=SH.nil 44 1 (SH.nil 44 1 (SH.nil 33 1 (SH.nil 3 1 h)))
 have h:=h.fr (.c r4 .n)
 have h:SH B w (XA b2 mb (⟨{call:=c},s⟩:Ct.X)::bl b1 ([↑c.kind,↑c.aE.root,↑c.aE.readOnly,↑c.a,↑c.b,↑c.n,↑c.index,.int .u64 (c.hash:Int),.int .u64 (c.aI:Int),↑c.key,.int .u64 (c.value:Int),.int .u64 (c.expect:Int),↑c.bF,↑c.only,↑c.walk.started,.slice none 0 0,.slice none 0 0,↑c.answer.err,↑c.answer.found,.int .u64 (c.answer.value:Int),↑c.answer.key,↑c.answer.count,↑c.answer.ref,↑c.answer.aE.root,↑c.answer.aE.readOnly]) 60::L):=SH.xi (e:={call:=c}) ⟨none,0,none,0,none,0,none,0⟩ h
 refine go h λw h=>?_
 refine SS (Wr _ _ (⟨{call:=c},s⟩:Ct.X) _ _ h.to k (by decide) hx hF hm hky hk7 hk12) λw h k=>?_
 exact rz ⟨_,rfl,h.to,k⟩
section
attribute [local semireducible] gB wpS Go.E.X XS C jU kP fin Y U F Ca jT bl rb aU bV ex ce pu sK gK bK zK gM fO dH gP nE rD
attribute [local irreducible] gB wpS
variable{B w:World}{L:List As}
theorem Jf(mb:Nat)(s:Ct.St)(h:SH B w (cR mb s::L))(hr:s.size<=90000000000):
  Calls prog 29 #[↑mb] w λe w'=>e=.returned (.agg (cU (Ct.PP s).2).toArray)/\SH B w' (cR mb (Ct.PP s).1::L):=by
 refine Ea (args:=[_]) func29 rfl ntmps29 rfl ?_
 refine sq<|rg<|sf (al h n0)<|?_
 rintro _ w ⟨b1,rfl,h⟩
 refine xe<|nx<|sq<|rg<|st (mv rfl)<|st (bd [.int .i64 3,.int .i64 0,.int .i64 0,.int .u64 0,.slice none 0 0,.int .u64 0,.string .empty,.int .u64 0,.slice none 0 0,.int .i64 0,.int .i64 0,.int .i64 0,.int .i64 0,.int .i64 0] Ic rfl (by kernel_rfl))<|cl (ca eF rfl) ((Ck mb s ({kind:=3}:Ct.Node) {} 0 (SH.eE ({kind:=3}:Ct.Node) rfl rfl (h.fr (.c r1 .n))) (by omega) (dF _) (dF _)).mono ?_)
 rintro _ w ⟨rfl,h⟩
 have z2:=(Ct.St.lP s ({kind:=3}:Ct.Node) 0).1
 refine⟨_,rfl,?_⟩
 refine st (sg rfl)<|xe<|nx<|sq<|rg<|st (mv rfl)<|cl (ca eF rfl) ((Jb mb (s.alloc ({kind:=3}:Ct.Node) 0).1 (h.fr (.c r0 .n)) (by omega)).mono ?_)
 rintro _ w ⟨rfl,h⟩
 have z3:(s.alloc ({kind:=3}:Ct.Node) 0).1.bS.1.size<=(s.alloc ({kind:=3}:Ct.Node) 0).1.size+1:=by unfold Ct.St.bS Ct.St.size;dsimp only;omega
 refine⟨_,rfl,?_⟩
 refine st (sg rfl)<|xe<|nx<|sq<|rg<|st (mv rfl)<|st (mv rfl)<|st (mv rfl)<|st (bd [.int .i64 2,.int .i64 (s.alloc ({kind:=3}:Ct.Node) 0).1.bS.2,.int .i64 0,.int .u64 0,.slice none 0 0,.int .u64 0,.string .empty,.int .u64 0,.slice none 0 0,.int .i64 0,.int .i64 0,.int .i64 0,.int .i64 0,.int .i64 0] Ic rfl (by kernel_rfl))<|st (mv rfl)<|cl (ca eF rfl) ((Ck mb (s.alloc ({kind:=3}:Ct.Node) 0).1.bS.1 ({kind:=2,gen:=(s.alloc ({kind:=3}:Ct.Node) 0).1.bS.2}:Ct.Node) {} (s.alloc ({kind:=3}:Ct.Node) 0).2 (SH.eE ({kind:=2,gen:=(s.alloc ({kind:=3}:Ct.Node) 0).1.bS.2}:Ct.Node) rfl rfl (h.fr (.c r0 .n))) (by omega) (dF _) (dF _)).mono ?_)
 rintro _ w ⟨rfl,h⟩
 have z4:=(Ct.St.lP (s.alloc ({kind:=3}:Ct.Node) 0).1.bS.1 ({kind:=2,gen:=(s.alloc ({kind:=3}:Ct.Node) 0).1.bS.2}:Ct.Node) (s.alloc ({kind:=3}:Ct.Node) 0).2).1
 refine⟨_,rfl,?_⟩
 refine cl (ca eF rfl) ((kE mb ((s.alloc ({kind:=3}:Ct.Node) 0).1.bS.1.alloc ({kind:=2,gen:=(s.alloc ({kind:=3}:Ct.Node) 0).1.bS.2}:Ct.Node) (s.alloc ({kind:=3}:Ct.Node) 0).2).1 ((s.alloc ({kind:=3}:Ct.Node) 0).1.bS.1.alloc ({kind:=2,gen:=(s.alloc ({kind:=3}:Ct.Node) 0).1.bS.2}:Ct.Node) (s.alloc ({kind:=3}:Ct.Node) 0).2).2 (h.fr (.c r0 .n)) (by omega)).mono ?_)
 rintro _ w ⟨rfl,h⟩
 refine⟨_,rfl,?_⟩
 refine st (bd [.int .i64 (((s.alloc ({kind:=3}:Ct.Node) 0).1.bS.1.alloc ({kind:=2,gen:=(s.alloc ({kind:=3}:Ct.Node) 0).1.bS.2}:Ct.Node) (s.alloc ({kind:=3}:Ct.Node) 0).2).1.aV ((s.alloc ({kind:=3}:Ct.Node) 0).1.bS.1.alloc ({kind:=2,gen:=(s.alloc ({kind:=3}:Ct.Node) 0).1.bS.2}:Ct.Node) (s.alloc ({kind:=3}:Ct.Node) 0).2).2).2,↑false] W1 rfl (by kernel_rfl))<|sf (so h rfl rfl rfl Ba rfl (.r (.r .d)) u1)<|?_
 rintro _ w h
 refine xe<|nx<|rt<|?_
 refine rr (bP results29 rfl (h.b a1) xP)<|⟨rfl,(h.fr (.c r1 .n)).drop⟩
end
variable{B w:World}{L:List As}
theorem EG(h:SH B w (L)):
  Calls prog 27 #[] w λe w'=>∃mb,e=.returned (.pointer (some ⟨mb,0,none⟩))/\SH B w' (cR mb {}::L):=by
 refine bZ func27 ntmps27 h λw h=>?_
 refine sf (bu [.int .i64 1,.int .i64 0,.int .i64 0,.int .u64 0,.slice none 0 0,.int .u64 0,.string .empty,.int .u64 0,.slice none 0 0,.int .i64 0,.int .i64 0,.int .i64 0,.int .i64 0,.int .i64 0,.int .i64 1,.int .i64 0,.int .i64 0,.int .u64 0,.slice none 0 0,.int .u64 0,.string .empty,.int .u64 0,.slice none 0 0,.int .i64 0,.int .i64 0,.int .i64 0,.int .i64 0,.int .i64 0] h fR.h Ss.h rfl (by kernel_rfl) rfl (by decide) (by decide)) ?_
 rintro _ w ⟨b1,rfl,h⟩
 refine go h λw h=>?_
 refine jX h λb2 w h=>?_
 refine rz ?_
 refine⟨_,rfl,SH.mi ⟨some ⟨b1,0,none⟩,2,none,0,[(({kind:=1}:Ct.Node),{}),(({kind:=1}:Ct.Node),{})]⟩ rfl ?_⟩
 have h:=h.fr (.c r0 (.c r0 .n))
 have h:=SH.eE ({kind:=1}:Ct.Node) rfl rfl (SH.eE ({kind:=1}:Ct.Node) rfl rfl h.YH)
 have h:=h.FM
 have h:=SH.nil 44 1 h
 exact h.fr (.c r2 (.c r2 (.c r0 (.c r0 .n))))
end Go.Q9
end
section
namespace Go.Q9
open Go.Proofs.Tryz
open Go.RowKit Go.E
attribute [local irreducible] gB wpS
def Ii(z:Nat×Ct.Ex):List Value:=[↑z.1]
theorem RM(z:Nat×Ct.Ex):(Ii z).length=1:=rfl
theorem Ng(t:Ct.bC):(cU t).length=2:=rfl
theorem Iq{j:Nat}(h:(j:Int)<18446744073709551616):IntKind.u64.wrap (j:Int)=j:=by rw[IntKind.wrap_u64];omega
theorem B1{a b:Nat}(h:0<b):(a:Int).tmod (b:Int)=((a%b:Nat):Int):=by rw[Int.tmod_eq_emod_of_nonneg (by omega)];exact(Int.natCast_emod a b).symm
theorem kH{α:Type}{d:α}:∀{l:List α} {j:Nat},j<l.length->l.getD j d∈l
 |x::l,0,_=>.head _
 |x::l,j+1,h=>.tail _ (kH (by simpa using h))
structure Wq where
 pt:Option Addr:=none
 ct:Nat:=0
 px:Option Addr:=none
 cx:Nat:=0
def Uv(b mb aI:Nat)(ts:List Ct.bC)(zs:List (Nat×Ct.Ex))(q:Wq):List As:=
 [bl b [↑mb,.int .u64 (aI:Int),.slice q.pt ts.length q.ct,.slice q.px zs.length q.cx] 32,aU 35 2 (.slice q.pt ts.length q.ct) ts.length (ts.flatMap cU),aU 81 1 (.slice q.px zs.length q.cx) zs.length (zs.flatMap Ii)]
def nS(b mb aI:Nat)(ts:List Ct.bC)(zs:List (Nat×Ct.Ex)):As:=ex λq:Wq=>se (Uv b mb aI ts zs q)
variable{B w:World}{L:List As}
theorem _root_.Go.E.SH.wo{b mb aI:Nat}{ts:List Ct.bC}{zs:List (Nat×Ct.Ex)}(h:SH B w (nS b mb aI ts zs::L)):∃q,SH B w (Uv b mb aI ts zs q++L):=by
 obtain⟨q,h⟩:=SH.ex (f:=λq:Wq=>Go.E.se (Uv b mb aI ts zs q)) h
 exact⟨q,h.se⟩
theorem _root_.Go.E.SH.wi{b mb aI:Nat}{ts:List Ct.bC}{zs:List (Nat×Ct.Ex)}(q:Wq)(h:SH B w (Uv b mb aI ts zs q++L)):SH B w (nS b mb aI ts zs::L):=
 SH.dU (f:=λq:Wq=>Go.E.se (Uv b mb aI ts zs q)) q (SH.is h)
def d7(c:Ct.Call):List Value:=[↑c.kind,↑c.aE.root,↑c.aE.readOnly,↑c.a,↑c.b,↑c.n,↑c.index,.int .u64 (c.hash:Int),.int .u64 (c.aI:Int),↑c.key,.int .u64 (c.value:Int),.int .u64 (c.expect:Int),↑c.bF,↑c.only,↑c.walk.started,.slice none 0 0,.slice none 0 0,↑c.answer.err,↑c.answer.found,.int .u64 (c.answer.value:Int),↑c.answer.key,↑c.answer.count,↑c.answer.ref,↑c.answer.aE.root,↑c.answer.aE.readOnly]
theorem wN(b mb tb aI:Nat)(ts:List Ct.bC)(zs:List (Nat×Ct.Ex))(l:List Int)(kind:Int)(h:SH B w (nS b mb aI ts zs::gQ tb l::L))(ht:0<ts.length)(hl:ts.length<=5)(hk7:7<=kind)(hk12:kind<=12)(h0:(ts.getD 0 {}).readOnly=false):
  Calls prog 15 #[↑b,↑kind,↑tb] w λe w'=>∃c:Ct.Call,c.kind=kind/\c.aI=aI/\c.key.size<=8/\c.aE∈ts/\(c.kind=8\/c.kind=9\/c.kind=12->c.aE.readOnly=false)/\e=.returned (.agg (d7 c).toArray)/\SH B w' (nS b mb aI ts zs::gQ tb l::L):=by
 obtain⟨⟨twp,twc,xwp,xwc⟩,h⟩:=h.wo
 have h:SH B w (bl b ([↑mb,.int .u64 (aI:Int),.slice twp ts.length twc,.slice xwp zs.length xwc]) 32::aU 35 2 (.slice twp ts.length twc) ts.length (ts.flatMap cU)::aU 81 1 (.slice xwp zs.length xwc) zs.length (zs.flatMap Ii)::gQ tb l::L):=h
 refine Ea (args:=[_,_,_]) func15 rfl ntmps15 rfl ?_
 refine sq<|rg<|sf (al h Hm)<|?_
 rintro _ w ⟨b1,rfl,h⟩
 refine xe<|nx<|?_
 refine sm (λe w=>∃cb:Nat,∃ky:ByteArray,∃jv:Nat,∃jx:Nat,∃jp:Nat,∃only:Bool,Sub 109 e (.c 0 ↑b (.c 1 ↑kind (.c 2 ↑tb (.c 6 ↑b1 (.c 7 ↑cb .n)))))/\SH B w (bl cb ([↑kind,.int .i64 0,↑false,.int .i64 0,.int .i64 0,.int .i64 0,.int .i64 0,.int .u64 0,.int .u64 (aI:Int),↑ky,.int .u64 (jv:Int),.int .u64 (jx:Int),↑(jp:Int),↑only,↑false,.slice none 0 0,.slice none 0 0,.int .i64 0,↑false,.int .u64 0,.string .empty,.int .i64 0,.int .i64 0,.int .i64 0,↑false]) 60::bl b1 ([.int .i64 0,.int .i64 0,↑false,.int .i64 0,.int .i64 0,.int .i64 0,.int .i64 0,.int .u64 0,.int .u64 0,.string .empty,.int .u64 0,.int .u64 0,.int .i64 0,↑false,↑false,.slice none 0 0,.slice none 0 0,.int .i64 0,↑false,.int .u64 0,.string .empty,.int .i64 0,.int .i64 0,.int .i64 0,↑false]) 60::bl b ([↑mb,.int .u64 (aI:Int),.slice twp ts.length twc,.slice xwp zs.length xwc]) 32::aU 35 2 (.slice twp ts.length twc) ts.length (ts.flatMap cU)::aU 81 1 (.slice xwp zs.length xwc) zs.length (zs.flatMap Ii)::gQ tb l::L)/\(ky.size<=8)) ?_ ?_
 refine VS (F:=[bl b ([↑mb,.int .u64 (aI:Int),.slice twp ts.length twc,.slice xwp zs.length xwc]) 32]) (.op 0 true (.op 1 true (.op 2 true (.op 3 true (.op 4 true (.op 5 true (.op 7 true (.op 10 true (.op 13 true (.op 15 true (.fork 6 19 (.fork 8 19 (.op 9 true (.fork 11 19 (.op 12 true (.fork 14 19 (.fork 16 19 (.op 17 true (.op 18 true (.op 19 false (.op 20 false .stop)))) (.op 16 false (.op 17 true (.op 18 true (.op 20 false .stop))))) (.op 14 false (.op 16 false (.op 17 true (.op 18 true (.op 20 false .stop))))))) (.op 11 false (.op 12 true (.op 14 false (.op 16 false (.op 17 true (.op 18 true (.op 20 false .stop))))))))) (.op 8 false (.op 9 true (.op 11 false (.op 12 true (.op 14 false (.op 16 false (.op 17 true (.op 18 true (.op 20 false .stop)))))))))) (.op 6 false (.op 8 false (.op 9 true (.op 11 false (.op 12 true (.op 14 false (.op 16 false (.op 17 true (.op 18 true (.op 20 false .stop))))))))))))))))))))) (by kernel_rfl) h (λw h=>(hC (h.at_ a1) hN)) λw h=>tk (λW H=>mv rfl)<|tk (λW H=>mv rfl)<|tk (λW H=>nc rfl rfl)<|tk (λW H=>fa R9 rfl)<|tk (λW H=>ld vV rfl (H.c a0 rfl))<|tk (λW H=>mv rfl)<|tk (λW H=>mv rfl)<|tk (λW H=>mv rfl)<|tk (λW H=>mv rfl)<|tk (λW H=>mv rfl)<|Mg ?_ ?_
 refine cs (ca eF rfl) ((VQ tb l (h.fr (.c r4 .n))).mono ?_)
 rintro _ w ⟨ky2,hk3,rfl,h⟩
 refine⟨_,rfl,(hC (h.at_ a2) hN),?_⟩
 refine Mg ?_ ?_
 refine cs (ca eF rfl) ((fB tb l 6 (h.fr (.c r0 .n)) (by omega) (by omega)).mono ?_)
 rintro _ w ⟨j4,hj5,rfl,h⟩
 refine⟨_,rfl,(hC (h.at_ a2) hN),?_⟩
 refine tk (λW H=>QM Lw Gc rfl (Iq (by omega)))<|Mg ?_ ?_
 refine cs (ca eF rfl) ((fB tb l 6 (h.fr (.c r0 .n)) (by omega) (by omega)).mono ?_)
 rintro _ w ⟨j6,hj7,rfl,h⟩
 refine⟨_,rfl,(hC (h.at_ a2) hN),?_⟩
 refine tk (λW H=>QM Lw Gc rfl (Iq (by omega)))<|Mg ?_ ?_
 refine cs (ca eF rfl) ((fB tb l 4 (h.fr (.c r0 .n)) (by omega) (by omega)).mono ?_)
 rintro _ w ⟨j8,hj9,rfl,h⟩
 refine⟨_,rfl,(hC (h.at_ a2) hN),?_⟩
 refine Mg ?_ ?_
 refine cs (ca eF rfl) ((fB tb l 3 (h.fr (.c r0 .n)) (by omega) (by omega)).mono ?_)
 rintro _ w ⟨j10,hj11,rfl,h⟩
 refine⟨_,rfl,(hC (h.at_ a2) hN),?_⟩
 refine tk (λW H=>bi rfl rfl rfl)<|tk (λW H=>bd [↑kind,.int .i64 0,↑false,.int .i64 0,.int .i64 0,.int .i64 0,.int .i64 0,.int .u64 0,.int .u64 (aI:Int),↑ky2,.int .u64 (j4:Int),.int .u64 (j6:Int),↑(j8:Int),.bool (((j10:Int):Int)==0),↑false,.slice none 0 0,.slice none 0 0,.int .i64 0,↑false,.int .u64 0,.string .empty,.int .i64 0,.int .i64 0,.int .i64 0,↑false] Zt rfl (by kernel_rfl))<|ff (al h Hm)<|?_
 rintro _ w ⟨b12,rfl,h⟩
 refine⟨(hC (h.at_ a3) hN),?_⟩
 refine ff (so h rfl rfl rfl Di rfl (.r (.r (.r (.r (.r (.r (.r (.r (.r (.r (.r (.r (.r (.r (.r (.r (.r (.r (.r (.r (.r (.r (.r (.r (.r .d))))))))))))))))))))))))) u0)<|?_
 rintro _ w h
 refine⟨(hC (h.at_ a3) hN),?_⟩
 refine WZ rfl<|nx<|?_
 exact⟨b12,ky2,j4,j6,j8,(((j10:Int):Int)==0),⟨rfl,rfl,rfl,rfl,rfl,trivial⟩,(h.fr (.c r0 (.c r1 (.c r1 (.c r1 (.c r1 (.c r0 .n))))))),hk3⟩
 refine ff (al h Hm)<|?_
 rintro _ w ⟨b13,rfl,h⟩
 refine⟨(hC (h.at_ a3) hN),?_⟩
 refine cs (ca eF rfl) ((fB tb l 3 (h.fr (.c r1 .n)) (by omega) (by omega)).mono ?_)
 rintro _ w ⟨j14,hj15,rfl,h⟩
 refine⟨_,rfl,(hC (h.at_ a3) hN),?_⟩
 refine tk (λW H=>bi rfl rfl rfl)<|tk (λW H=>bd [↑kind,.int .i64 0,↑false,.int .i64 0,.int .i64 0,.int .i64 0,.int .i64 0,.int .u64 0,.int .u64 (aI:Int),↑ky2,.int .u64 (j4:Int),.int .u64 (j6:Int),↑(j8:Int),.bool (((j14:Int):Int)==0),↑false,.slice none 0 0,.slice none 0 0,.int .i64 0,↑false,.int .u64 0,.string .empty,.int .i64 0,.int .i64 0,.int .i64 0,↑false] Zt rfl (by kernel_rfl))<|ff (so h rfl rfl rfl Di rfl (.r (.r (.r (.r (.r (.r (.r (.r (.r (.r (.r (.r (.r (.r (.r (.r (.r (.r (.r (.r (.r (.r (.r (.r (.r .d))))))))))))))))))))))))) u1)<|?_
 rintro _ w h
 refine⟨(hC (h.at_ a3) hN),?_⟩
 refine WZ rfl<|nx<|?_
 exact⟨b13,ky2,j4,j6,j8,(((j14:Int):Int)==0),⟨rfl,rfl,rfl,rfl,rfl,trivial⟩,(h.fr (.c r1 (.c r1 (.c r1 (.c r1 (.c r1 (.c r0 .n))))))),hk3⟩
 refine ff (al h Hm)<|?_
 rintro _ w ⟨b16,rfl,h⟩
 refine⟨(hC (h.at_ a3) hN),?_⟩
 refine cs (ca eF rfl) ((fB tb l 4 (h.fr (.c r1 .n)) (by omega) (by omega)).mono ?_)
 rintro _ w ⟨j17,hj18,rfl,h⟩
 refine⟨_,rfl,(hC (h.at_ a3) hN),?_⟩
 refine cs (ca eF rfl) ((fB tb l 3 (h.fr (.c r0 .n)) (by omega) (by omega)).mono ?_)
 rintro _ w ⟨j19,hj20,rfl,h⟩
 refine⟨_,rfl,(hC (h.at_ a3) hN),?_⟩
 refine tk (λW H=>bi rfl rfl rfl)<|tk (λW H=>bd [↑kind,.int .i64 0,↑false,.int .i64 0,.int .i64 0,.int .i64 0,.int .i64 0,.int .u64 0,.int .u64 (aI:Int),↑ky2,.int .u64 (j4:Int),.int .u64 (j6:Int),↑(j17:Int),.bool (((j19:Int):Int)==0),↑false,.slice none 0 0,.slice none 0 0,.int .i64 0,↑false,.int .u64 0,.string .empty,.int .i64 0,.int .i64 0,.int .i64 0,↑false] Zt rfl (by kernel_rfl))<|ff (so h rfl rfl rfl Di rfl (.r (.r (.r (.r (.r (.r (.r (.r (.r (.r (.r (.r (.r (.r (.r (.r (.r (.r (.r (.r (.r (.r (.r (.r (.r .d))))))))))))))))))))))))) u1)<|?_
 rintro _ w h
 refine⟨(hC (h.at_ a3) hN),?_⟩
 refine WZ rfl<|nx<|?_
 exact⟨b16,ky2,j4,j6,j17,(((j19:Int):Int)==0),⟨rfl,rfl,rfl,rfl,rfl,trivial⟩,(h.fr (.c r1 (.c r1 (.c r1 (.c r1 (.c r1 (.c r0 .n))))))),hk3⟩
 refine ff (al h Hm)<|?_
 rintro _ w ⟨b21,rfl,h⟩
 refine⟨(hC (h.at_ a3) hN),?_⟩
 refine cs (ca eF rfl) ((fB tb l 6 (h.fr (.c r1 .n)) (by omega) (by omega)).mono ?_)
 rintro _ w ⟨j22,hj23,rfl,h⟩
 refine⟨_,rfl,(hC (h.at_ a3) hN),?_⟩
 refine tk (λW H=>QM Lw Gc rfl (Iq (by omega)))<|cs (ca eF rfl) ((fB tb l 4 (h.fr (.c r0 .n)) (by omega) (by omega)).mono ?_)
 rintro _ w ⟨j24,hj25,rfl,h⟩
 refine⟨_,rfl,(hC (h.at_ a3) hN),?_⟩
 refine cs (ca eF rfl) ((fB tb l 3 (h.fr (.c r0 .n)) (by omega) (by omega)).mono ?_)
 rintro _ w ⟨j26,hj27,rfl,h⟩
 refine⟨_,rfl,(hC (h.at_ a3) hN),?_⟩
 refine tk (λW H=>bi rfl rfl rfl)<|tk (λW H=>bd [↑kind,.int .i64 0,↑false,.int .i64 0,.int .i64 0,.int .i64 0,.int .i64 0,.int .u64 0,.int .u64 (aI:Int),↑ky2,.int .u64 (j4:Int),.int .u64 (j22:Int),↑(j24:Int),.bool (((j26:Int):Int)==0),↑false,.slice none 0 0,.slice none 0 0,.int .i64 0,↑false,.int .u64 0,.string .empty,.int .i64 0,.int .i64 0,.int .i64 0,↑false] Zt rfl (by kernel_rfl))<|ff (so h rfl rfl rfl Di rfl (.r (.r (.r (.r (.r (.r (.r (.r (.r (.r (.r (.r (.r (.r (.r (.r (.r (.r (.r (.r (.r (.r (.r (.r (.r .d))))))))))))))))))))))))) u1)<|?_
 rintro _ w h
 refine⟨(hC (h.at_ a3) hN),?_⟩
 refine WZ rfl<|nx<|?_
 exact⟨b21,ky2,j4,j22,j24,(((j26:Int):Int)==0),⟨rfl,rfl,rfl,rfl,rfl,trivial⟩,(h.fr (.c r1 (.c r1 (.c r1 (.c r1 (.c r1 (.c r0 .n))))))),hk3⟩
 refine ff (al h Hm)<|?_
 rintro _ w ⟨b28,rfl,h⟩
 refine⟨(hC (h.at_ a3) hN),?_⟩
 refine cs (ca eF rfl) ((fB tb l 6 (h.fr (.c r1 .n)) (by omega) (by omega)).mono ?_)
 rintro _ w ⟨j29,hj30,rfl,h⟩
 refine⟨_,rfl,(hC (h.at_ a3) hN),?_⟩
 refine tk (λW H=>QM Lw Gc rfl (Iq (by omega)))<|cs (ca eF rfl) ((fB tb l 6 (h.fr (.c r0 .n)) (by omega) (by omega)).mono ?_)
 rintro _ w ⟨j31,hj32,rfl,h⟩
 refine⟨_,rfl,(hC (h.at_ a3) hN),?_⟩
 refine tk (λW H=>QM Lw Gc rfl (Iq (by omega)))<|cs (ca eF rfl) ((fB tb l 4 (h.fr (.c r0 .n)) (by omega) (by omega)).mono ?_)
 rintro _ w ⟨j33,hj34,rfl,h⟩
 refine⟨_,rfl,(hC (h.at_ a3) hN),?_⟩
 refine cs (ca eF rfl) ((fB tb l 3 (h.fr (.c r0 .n)) (by omega) (by omega)).mono ?_)
 rintro _ w ⟨j35,hj36,rfl,h⟩
 refine⟨_,rfl,(hC (h.at_ a3) hN),?_⟩
 refine tk (λW H=>bi rfl rfl rfl)<|tk (λW H=>bd [↑kind,.int .i64 0,↑false,.int .i64 0,.int .i64 0,.int .i64 0,.int .i64 0,.int .u64 0,.int .u64 (aI:Int),↑ky2,.int .u64 (j29:Int),.int .u64 (j31:Int),↑(j33:Int),.bool (((j35:Int):Int)==0),↑false,.slice none 0 0,.slice none 0 0,.int .i64 0,↑false,.int .u64 0,.string .empty,.int .i64 0,.int .i64 0,.int .i64 0,↑false] Zt rfl (by kernel_rfl))<|ff (so h rfl rfl rfl Di rfl (.r (.r (.r (.r (.r (.r (.r (.r (.r (.r (.r (.r (.r (.r (.r (.r (.r (.r (.r (.r (.r (.r (.r (.r (.r .d))))))))))))))))))))))))) u1)<|?_
 rintro _ w h
 refine⟨(hC (h.at_ a3) hN),?_⟩
 refine WZ rfl<|nx<|?_
 exact⟨b28,ky2,j29,j31,j33,(((j35:Int):Int)==0),⟨rfl,rfl,rfl,rfl,rfl,trivial⟩,(h.fr (.c r1 (.c r1 (.c r1 (.c r1 (.c r1 (.c r0 .n))))))),hk3⟩
 refine ff (al h Hm)<|?_
 rintro _ w ⟨b37,rfl,h⟩
 refine⟨(hC (h.at_ a2) hN),?_⟩
 refine cs (ca eF rfl) ((VQ tb l (h.fr (.c r5 .n))).mono ?_)
 rintro _ w ⟨ky38,hk39,rfl,h⟩
 refine⟨_,rfl,(hC (h.at_ a3) hN),?_⟩
 refine cs (ca eF rfl) ((fB tb l 6 (h.fr (.c r0 .n)) (by omega) (by omega)).mono ?_)
 rintro _ w ⟨j40,hj41,rfl,h⟩
 refine⟨_,rfl,(hC (h.at_ a3) hN),?_⟩
 refine tk (λW H=>QM Lw Gc rfl (Iq (by omega)))<|cs (ca eF rfl) ((fB tb l 6 (h.fr (.c r0 .n)) (by omega) (by omega)).mono ?_)
 rintro _ w ⟨j42,hj43,rfl,h⟩
 refine⟨_,rfl,(hC (h.at_ a3) hN),?_⟩
 refine tk (λW H=>QM Lw Gc rfl (Iq (by omega)))<|cs (ca eF rfl) ((fB tb l 4 (h.fr (.c r0 .n)) (by omega) (by omega)).mono ?_)
 rintro _ w ⟨j44,hj45,rfl,h⟩
 refine⟨_,rfl,(hC (h.at_ a3) hN),?_⟩
 refine cs (ca eF rfl) ((fB tb l 3 (h.fr (.c r0 .n)) (by omega) (by omega)).mono ?_)
 rintro _ w ⟨j46,hj47,rfl,h⟩
 refine⟨_,rfl,(hC (h.at_ a3) hN),?_⟩
 refine tk (λW H=>bi rfl rfl rfl)<|tk (λW H=>bd [↑kind,.int .i64 0,↑false,.int .i64 0,.int .i64 0,.int .i64 0,.int .i64 0,.int .u64 0,.int .u64 (aI:Int),↑ky38,.int .u64 (j40:Int),.int .u64 (j42:Int),↑(j44:Int),.bool (((j46:Int):Int)==0),↑false,.slice none 0 0,.slice none 0 0,.int .i64 0,↑false,.int .u64 0,.string .empty,.int .i64 0,.int .i64 0,.int .i64 0,↑false] Zt rfl (by kernel_rfl))<|ff (so h rfl rfl rfl Di rfl (.r (.r (.r (.r (.r (.r (.r (.r (.r (.r (.r (.r (.r (.r (.r (.r (.r (.r (.r (.r (.r (.r (.r (.r (.r .d))))))))))))))))))))))))) u1)<|?_
 rintro _ w h
 refine⟨(hC (h.at_ a3) hN),?_⟩
 refine WZ rfl<|nx<|?_
 exact⟨b37,ky38,j40,j42,j44,(((j46:Int):Int)==0),⟨rfl,rfl,rfl,rfl,rfl,trivial⟩,(h.fr (.c r1 (.c r1 (.c r1 (.c r1 (.c r1 (.c r0 .n))))))),hk39⟩
 rintro e w ⟨cb,ky,jv,jx,jp,only,hE,h,hkc⟩
 refine C.sub hE ?_
 refine sq<|rg<|st (mv rfl)<|st (bi rfl rfl rfl)<|st (mv rfl)<|gT rfl rfl (beq_eq_false_iff_ne.2 (by omega))<|st (mv rfl)<|gT rfl rfl (beq_eq_false_iff_ne.2 (by omega))<|st (bi rfl rfl rfl)<|st (pF rfl (beq_eq_false_iff_ne.2 (by omega)) rfl)<|st (sg rfl)<|xe<|nx<|?_
 refine sm (λe w=>∃wr:Bool,Sub 109 e (.c 0 ↑b (.c 2 ↑tb (.c 6 ↑b1 (.c 7 ↑cb (.c 8 (.bool ((kind:Int)==13)) (.c 9 ↑wr .n))))))/\SH B w (bl cb ([↑kind,.int .i64 0,↑false,.int .i64 0,.int .i64 0,.int .i64 0,.int .i64 0,.int .u64 0,.int .u64 (aI:Int),↑ky,.int .u64 (jv:Int),.int .u64 (jx:Int),↑(jp:Int),↑only,↑false,.slice none 0 0,.slice none 0 0,.int .i64 0,↑false,.int .u64 0,.string .empty,.int .i64 0,.int .i64 0,.int .i64 0,↑false]) 60::bl b1 ([.int .i64 0,.int .i64 0,↑false,.int .i64 0,.int .i64 0,.int .i64 0,.int .i64 0,.int .u64 0,.int .u64 0,.string .empty,.int .u64 0,.int .u64 0,.int .i64 0,↑false,↑false,.slice none 0 0,.slice none 0 0,.int .i64 0,↑false,.int .u64 0,.string .empty,.int .i64 0,.int .i64 0,.int .i64 0,↑false]) 60::bl b ([↑mb,.int .u64 (aI:Int),.slice twp ts.length twc,.slice xwp zs.length xwc]) 32::aU 35 2 (.slice twp ts.length twc) ts.length (ts.flatMap cU)::aU 81 1 (.slice xwp zs.length xwc) zs.length (zs.flatMap Ii)::gQ tb l::L)/\(wr=false->¬(kind=8\/kind=9\/kind=12))) ?_ ?_
 refine rg<|st (mv rfl)<|st (bi rfl rfl rfl)<|st (mv rfl)<|?_
 rcases dA ((kind:Int)==8)with hd48|hd48
 refine gF rfl rfl hd48<|gF rfl rfl hd48<|st (pT rfl hd48 rfl)<|st (mv rfl)<|gF rfl rfl rfl<|gF rfl rfl rfl<|st (pT rfl rfl rfl)<|st (mv rfl)<|gF rfl rfl rfl<|gF rfl rfl rfl<|st (pT rfl rfl rfl)<|st (sg rfl)<|xe<|nx<|?_
 exact⟨true,⟨rfl,rfl,rfl,rfl,rfl,rfl,trivial⟩,h,(λhz=>Bool.noConfusion hz)⟩
 refine gT rfl rfl hd48<|st (mv rfl)<|gT rfl rfl hd48<|st (bi rfl rfl rfl)<|st (pF rfl hd48 rfl)<|st (mv rfl)<|?_
 rcases dA ((kind:Int)==9)with hd51|hd51
 refine gF rfl rfl hd51<|gF rfl rfl hd51<|st (pT rfl hd51 rfl)<|st (mv rfl)<|gF rfl rfl rfl<|gF rfl rfl rfl<|st (pT rfl rfl rfl)<|st (sg rfl)<|xe<|nx<|?_
 exact⟨true,⟨rfl,rfl,rfl,rfl,rfl,rfl,trivial⟩,h,(λhz=>Bool.noConfusion hz)⟩
 refine gT rfl rfl hd51<|st (mv rfl)<|gT rfl rfl hd51<|st (bi rfl rfl rfl)<|st (pF rfl hd51 rfl)<|st (mv rfl)<|?_
 rcases dA ((kind:Int)==12)with hd54|hd54
 refine gF rfl rfl hd54<|gF rfl rfl hd54<|st (pT rfl hd54 rfl)<|st (sg rfl)<|xe<|nx<|?_
 exact⟨true,⟨rfl,rfl,rfl,rfl,rfl,rfl,trivial⟩,h,(λhz=>Bool.noConfusion hz)⟩
 refine gT rfl rfl hd54<|st (mv rfl)<|gT rfl rfl hd54<|st (bi rfl rfl rfl)<|st (pF rfl hd54 rfl)<|st (sg rfl)<|xe<|nx<|?_
 exact⟨((kind:Int)==4),⟨rfl,rfl,rfl,rfl,rfl,rfl,trivial⟩,h,(λ_ hc=>by have hhd48:=dP hd48;have hhd51:=dP hd51;have hhd54:=dP hd54;omega)⟩
 rintro e w ⟨wr,hE,h,hwr⟩
 refine C.sub hE ?_
 refine sq<|rg<|st (mv rfl)<|st (mv rfl)<|st (nc rfl rfl)<|st (fa xK rfl)<|st (ld Jo rfl (h.c a2 rfl))<|st (ln Mu rfl rfl)<|cl (ca eF rfl) ((fB tb l (ts.length:Int) (h.fr (.c r5 .n)) (by omega) (by omega)).mono ?_)
 rintro _ w ⟨j57,hj58,rfl,h⟩
 refine⟨_,rfl,?_⟩
 refine st (sg rfl)<|xe<|nx<|sq<|sq<|rg<|st (sg rfl)<|xe<|nx<|bk<|?_
 refine lp (α:=Nat×Ct.bC) (λρ=>(.c 0 ↑b (.c 6 ↑b1 (.c 7 ↑cb (.c 8 (.bool ((kind:Int)==13)) (.c 9 ↑wr (.c 10 ↑(j57:Int) (.c 11 (.int .i64 (ρ.1:Int)) .n)))))))) (λρ w=>SH B w (bl cb ([↑kind,.int .i64 ρ.2.root,.bool ρ.2.readOnly,.int .i64 0,.int .i64 0,.int .i64 0,.int .i64 0,.int .u64 0,.int .u64 (aI:Int),↑ky,.int .u64 (jv:Int),.int .u64 (jx:Int),↑(jp:Int),↑only,↑false,.slice none 0 0,.slice none 0 0,.int .i64 0,↑false,.int .u64 0,.string .empty,.int .i64 0,.int .i64 0,.int .i64 0,↑false]) 60::gQ tb l::bl b1 ([.int .i64 0,.int .i64 0,↑false,.int .i64 0,.int .i64 0,.int .i64 0,.int .i64 0,.int .u64 0,.int .u64 0,.string .empty,.int .u64 0,.int .u64 0,.int .i64 0,↑false,↑false,.slice none 0 0,.slice none 0 0,.int .i64 0,↑false,.int .u64 0,.string .empty,.int .i64 0,.int .i64 0,.int .i64 0,↑false]) 60::bl b ([↑mb,.int .u64 (aI:Int),.slice twp ts.length twc,.slice xwp zs.length xwc]) 32::aU 35 2 (.slice twp ts.length twc) ts.length (ts.flatMap cU)::aU 81 1 (.slice xwp zs.length xwc) zs.length (zs.flatMap Ii)::L)/\(ρ.1<=ts.length)) (λρ=>ts.length-ρ.1) (0,({}:Ct.bC)) ⟨rfl,rfl,rfl,rfl,rfl,rfl,rfl,trivial⟩ ⟨(h.fr (.c r1 (.c r0 (.c r0 (.c r0 (.c r0 (.c r0 .n))))))),(dF _)⟩ ?_
 rintro⟨i,trx⟩ w ⟨h,hi⟩
 refine sq<|sq<|rg<|st (mv rfl)<|st (mv rfl)<|st (nc rfl rfl)<|st (fa xK rfl)<|st (ld Jo rfl (h.c a3 rfl))<|st (ln Mu rfl rfl)<|st (bi rfl rfl rfl)<|xe<|nx<|?_
 rcases dA (decide (((i:Int):Int)<(ts.length:Int)))with hd59|hd59
 have hg60:=eC hd59
 refine ct rfl hd59<|sk<|nx<|sq<|bk<|sq<|?_
 have hmod:=Nat.mod_lt (j57+i) ht
 obtain⟨b61,rfl⟩:=h.fp a4 (by omega)
 refine dZ [1,3,5,7,9,11,13,15,17,19,21,23,25,27,29,31,32] (by kernel_rfl) h (.c r3 (.c r3 .n)) λw h=>tk (λW H=>mv rfl)<|tk (λW H=>nc rfl rfl)<|tk (λW H=>fa xK rfl)<|tk (λW H=>ld Jo rfl (H.c a0 rfl))<|tk (λW H=>mv rfl)<|tk (λW H=>mv rfl)<|tk (λW H=>bw rfl rfl (gN (c:=((j57+i:Nat):Int)) (by omega) (by omega) (by omega)))<|tk (λW H=>mv rfl)<|tk (λW H=>nc rfl rfl)<|tk (λW H=>fa xK rfl)<|tk (λW H=>ld Jo rfl (H.c a0 rfl))<|tk (λW H=>ln Mu rfl rfl)<|tk (λW H=>I8 rfl rfl (by omega) (B1 (by omega)))<|tk (λW H=>ix (j:=(j57+i)%ts.length) Mu Ba rfl rfl (by omega))<|tk (λW H=>gJ rfl ((H.ro a1).x Ng (by decide) (by omega) {}) xP)<|tk (λW H=>fa Am rfl)<|ff (so h rfl rfl rfl Ba rfl (.s (.r (.r .d))) u0)<|?_
 rintro _ w h
 refine⟨h.hs (.c r3 (.c r3 .n)),?_⟩
 refine xz<|nx<|sq<|rg<|st (fa Am rfl)<|st (fa CV rfl)<|st (ld xN rfl (h.c a0 rfl))<|st (mv rfl)<|?_
 rcases dA (ts.getD ((j57+i)%ts.length) {}).readOnly with hd62|hd62
 refine gT rfl rfl hd62<|st (mv rfl)<|gT rfl rfl hd62<|st (nt rfl)<|st (pT rfl hd62 rfl)<|st (mv rfl)<|?_
 rcases dA (!wr)with hd63|hd63
 have hd64:wr=false:=by simpa using hd63
 refine gF rfl rfl hd63<|gF rfl rfl hd63<|gF rfl rfl hd63<|gF rfl rfl hd63<|gF rfl rfl hd63<|gU rfl rfl<|gU rfl rfl<|gF rfl rfl hd63<|st (pT rfl hd63 rfl)<|xe<|nx<|cT rfl<|sq<|rg<|st (gJ rfl (dK (h.b a0)) Aj)<|sf (so h rfl rfl rfl Di rfl (.r (.r (.r (.r (.r (.r (.r (.r (.r (.r (.r (.r (.r (.r (.r (.r (.r (.r (.r (.r (.r (.r (.r (.r (.r .d))))))))))))))))))))))))) u2)<|?_
 rintro _ w h
 refine xe<|nx<|rt<|bt<|tr<|tr<|bt<|tr<|?_
 refine rr (bP results15 rfl (h.b a2) Aj)<|?_
 refine⟨({kind:=kind,aE:=(ts.getD ((j57+i)%ts.length) {}),aI:=aI,key:=ky,value:=jv,expect:=jx,bF:=jp,only:=only}:Ct.Call),rfl,rfl,hkc,?_,?_,rfl,(by have h:=((h.fr (.c r0 (.c r1 .n))).drop.drop.fr (.c r1 (.c r1 (.c r1 (.c r0 .n)))));exact SH.wi ⟨some ⟨b61,0,none⟩,twc,xwp,xwc⟩ h)⟩
 exact kH (Nat.mod_lt _ ht)
 exact λhc=>absurd hc (hwr (by simpa using hd64))
 have hd65:wr=true:=by simpa using hd63
 refine gT rfl rfl hd63<|st (fa Am rfl)<|gT rfl rfl hd63<|st (fa CV rfl)<|gT rfl rfl hd63<|st (ld xN rfl (h.c a0 rfl))<|gT rfl rfl hd63<|st (nt rfl)<|gT rfl rfl hd63<|st (mv rfl)<|gF rfl rfl (sZ hd62)<|gF rfl rfl (sZ hd62)<|gT rfl rfl hd63<|st (pF rfl (sZ hd62) rfl)<|st (pF rfl hd63 rfl)<|xe<|nx<|cF rfl<|sk<|bn<|nx<|rg<|st (mv rfl)<|st (bw rfl rfl (gN (c:=((i+1:Nat):Int)) (by omega) (by omega) (by omega)))<|st (sg rfl)<|xe<|nx<|?_
 exact⟨((i+1),(ts.getD ((j57+i)%ts.length) {})),⟨rfl,rfl,rfl,rfl,rfl,rfl,rfl,trivial⟩,⟨h,by(try dsimp only);omega⟩,by(try dsimp only);omega⟩
 refine gF rfl rfl hd62<|gF rfl rfl hd62<|st (pF rfl hd62 rfl)<|st (mv rfl)<|gT rfl rfl rfl<|st (fa Am rfl)<|gT rfl rfl rfl<|st (fa CV rfl)<|gT rfl rfl rfl<|st (ld xN rfl (h.c a0 rfl))<|gT rfl rfl rfl<|st (nt rfl)<|gT rfl rfl rfl<|st (mv rfl)<|gT rfl rfl (tJ hd62)<|st (mv rfl)<|gT rfl rfl (tJ hd62)<|st (nt rfl)<|gT rfl rfl rfl<|st (pT rfl (tJ hd62) rfl)<|st (pF rfl rfl rfl)<|xe<|nx<|ct rfl (tJ (beq_eq_false_iff_ne.2 (by omega)))<|sq<|rg<|st (gJ rfl (dK (h.b a0)) Aj)<|sf (so h rfl rfl rfl Di rfl (.r (.r (.r (.r (.r (.r (.r (.r (.r (.r (.r (.r (.r (.r (.r (.r (.r (.r (.r (.r (.r (.r (.r (.r (.r .d))))))))))))))))))))))))) u2)<|?_
 rintro _ w h
 refine xe<|nx<|rt<|bt<|tr<|tr<|bt<|tr<|?_
 refine rr (bP results15 rfl (h.b a2) Aj)<|?_
 refine⟨({kind:=kind,aE:=(ts.getD ((j57+i)%ts.length) {}),aI:=aI,key:=ky,value:=jv,expect:=jx,bF:=jp,only:=only}:Ct.Call),rfl,rfl,hkc,?_,?_,rfl,(by have h:=((h.fr (.c r0 (.c r1 .n))).drop.drop.fr (.c r1 (.c r1 (.c r1 (.c r0 .n)))));exact SH.wi ⟨some ⟨b61,0,none⟩,twc,xwp,xwc⟩ h)⟩
 exact kH (Nat.mod_lt _ ht)
 exact λ_=>hd62
 refine cf rfl hd59<|xt<|tx<|tx<|be<|nx<|sq<|rg<|st (mv rfl)<|st (nc rfl rfl)<|st (fa xK rfl)<|st (ld Jo rfl (h.c a3 rfl))<|?_
 obtain⟨b67,rfl⟩:=h.fp a4 (by omega)
 refine st (ix (j:=0) Mu Ba rfl rfl (by omega))<|st (gJ rfl ((h.ro a4).x Ng (by decide) (j:=0) (by omega) {}) xP)<|st (fa Am rfl)<|sf (so h rfl rfl rfl Ba rfl (.s (.r (.r .d))) u0)<|?_
 rintro _ w h
 refine xe<|nx<|sq<|rg<|st (gJ rfl (dK (h.b a0)) Aj)<|sf (so h rfl rfl rfl Di rfl (.r (.r (.r (.r (.r (.r (.r (.r (.r (.r (.r (.r (.r (.r (.r (.r (.r (.r (.r (.r (.r (.r (.r (.r (.r .d))))))))))))))))))))))))) u2)<|?_
 rintro _ w h
 refine xe<|nx<|rt<|?_
 refine rr (bP results15 rfl (h.b a2) Aj)<|?_
 refine⟨({kind:=kind,aE:=(ts.getD 0 {}),aI:=aI,key:=ky,value:=jv,expect:=jx,bF:=jp,only:=only}:Ct.Call),rfl,rfl,hkc,?_,?_,rfl,(by have h:=((h.fr (.c r0 (.c r1 .n))).drop.drop.fr (.c r1 (.c r1 (.c r1 (.c r0 .n)))));exact SH.wi ⟨some ⟨b67,0,none⟩,twc,xwp,xwc⟩ h)⟩
 exact kH ht
 exact λ_=>h0
end Go.Q9
end
section
namespace Go.Q9
open Go.Proofs.Tryz
open Go.RowKit Go.E
attribute [local irreducible] gB wpS Go.E.X XS C jU kP fin Y U F Ca jT bl rb aU bV ex ce pu sK gK bK zK gM fO dH gP nE rD
def Mw(zs:List (Nat×Ct.Ex))(b:Nat)(e:Ct.Ex):List (Nat×Ct.Ex):=if e.done=true then zs else zs++[(b,e)]
def Yg(ts:List Ct.bC)(e:Ct.Ex):List Ct.bC:=if e.done=true/\0<e.result.aE.root/\ts.length<5 then ts++[e.result.aE]else ts
variable{B w:World}{L:List As}
theorem HO(b mb xb aI:Nat)(ts:List Ct.bC)(zs:List (Nat×Ct.Ex))(x:Ct.X)(h:SH B w (nS b mb aI ts zs::XA xb mb x::eV mb zs::L))(ht:ts.length<=5)(hz:zs.length<=100):
  Calls prog 69 #[↑b,↑xb] w λe w'=>e=.returned (.tuple #[])/\SH B w' (nS b mb aI (Yg ts x.e) (Mw zs xb x.e)::eV mb (Mw zs xb x.e)::cR mb x.s::L):=by
 obtain⟨⟨twp,twc,xwp,xwc⟩,h⟩:=h.wo
 have h:SH B w (bl b ([↑mb,.int .u64 (aI:Int),.slice twp ts.length twc,.slice xwp zs.length xwc]) 32::aU 35 2 (.slice twp ts.length twc) ts.length (ts.flatMap cU)::aU 81 1 (.slice xwp zs.length xwc) zs.length (zs.flatMap Ii)::XA xb mb x::eV mb zs::L):=h
 refine bZ func69 ntmps69 h λw h=>?_
 refine bA (vH _ _ _ h.to) λw h=>?_
 refine qc h (λhd1 w h=>?_) λhd1 w h=>?_
 have hd2:x.e.done=false:=by simpa using hd1
 refine sf (bu [↑xb] h fR.h Ss.h rfl (by kernel_rfl) rfl (by decide) (by decide)) ?_
 rintro _ w ⟨b3,rfl,h⟩
 refine sf (ap h Td rfl Z7 rfl (by decide) rfl rfl (λ_=>u4) (h.ro a0) (by simp[Value.oneCell']) rfl (fW (enc:=Ii) _ (xb,x.e)) (by unfold maxLen;omega) (by omega))<|?_
 rintro _ w ⟨p4,c5,rfl,h⟩
 refine st (nc rfl rfl)<|st (fa Af rfl)<|?_
 refine sf (so h rfl rfl rfl Vu rfl (.s (.s (.s (.r .d)))) u2)<|?_
 rintro _ w h
 refine xe<|?_
 refine rn (rK rfl) ?_
 rw[show Mw zs xb x.e=zs++[(xb,x.e)]from if_neg (by rw[hd2];decide),show Yg ts x.e=ts from if_neg (by rw[hd2];simp)]
 have h:=SH.VL (h.drop.fr (.c r0 (.c r3 (.c r0 (.c r0 (.c r0 .n))))))
 refine⟨rfl,SH.wi ⟨twp,twc,p4,c5⟩ ?_⟩
 unfold Uv;dsimp only;rw[cO,CG]
 exact h.fr (.c r2 (.c r2 (.c r2 .n)))
 have hd6:x.e.done=true:=by simpa using hd1
 refine bA (Kf _ _ _ h.to) λw h=>?_
 refine jA h λb7 w h=>?_
 refine qg h (λhd8 w h=>?_) λhd8 w h=>?_
 have hg9:=eC hd8
 refine go h λw h=>?_
 refine qc h (λhd10 w h=>?_) λhd10 w h=>?_
 have hg11:=eC hd10
 refine go h λw h=>?_
 refine Uc (F:=[bl b ([↑mb,.int .u64 (aI:Int),.slice twp ts.length twc,.slice xwp zs.length xwc]) 32,bl b7 (xC x.e.result) 49]) [(true,[1,3,5,7,9,11,13,14,16,19,21]),(false,[22])] (by kernel_rfl) h (λw h=>(hC (h.at_ a2) (hC (h.at_ a0) hN))) λw h=>go h λw h=>?_
 refine tk (λW H=>gJ (cs:=[↑x.e.result.aE.root,↑x.e.result.aE.readOnly]) rfl (Ek (H.b a1) 6 rfl) Row.h)<|go h λw h=>?_
 refine ff (bu [↑x.e.result.aE.root,↑x.e.result.aE.readOnly] h fR.h Ss.h rfl (by kernel_rfl) rfl (by decide) (by decide)) ?_
 rintro _ w ⟨b12,rfl,h⟩
 refine gz h λw h=>?_
 refine ff (ap h Mu rfl V7 rfl (by decide) rfl rfl (λ_=>u4) (h.ro a0) (by simp[Value.oneCell']) rfl (fW (enc:=cU) _ x.e.result.aE) (by unfold maxLen;omega) (by omega))<|?_
 rintro _ w ⟨p13,c14,rfl,h⟩
 refine⟨(hC (h.at_ a3) (hC (h.at_ a1) hN)),?_⟩
 refine tk (λW H=>nc rfl rfl)<|tk (λW H=>fa xK rfl)<|Zp<|?_
 refine ff (so h rfl rfl rfl V2 rfl (.s (.s (.r .d))) u3)<|?_
 rintro _ w h
 refine⟨trivial,?_⟩
 refine xz<|?_
 refine go h λw h=>?_
 refine rn (rK rfl) ?_
 rw[show Mw zs xb x.e=zs from if_pos hd6,show Yg ts x.e=ts++[x.e.result.aE]from if_pos ⟨hd6,by omega,by omega⟩]
 have h:=SH.QD (h.drop.drop.fr (.c r0 (.c r3 (.c r0 (.c r0 (.c r0 .n))))))
 refine⟨rfl,SH.wi ⟨p13,c14,xwp,xwc⟩ ?_⟩
 unfold Uv;dsimp only;rw[cO,CG]
 exact h.to.fr (.c r2 (.c r2 (.c r2 .n)))
 have hg15:=cW hd10
 refine go h λw h=>?_
 refine rn (rK rfl) ?_
 rw[show Mw zs xb x.e=zs from if_pos hd6,show Yg ts x.e=ts from if_neg (λhz=>by have:=hz.2;omega)]
 have h:=SH.QD (h.drop.fr (.c r0 (.c r3 (.c r0 (.c r0 (.c r0 .n))))))
 refine⟨rfl,SH.wi ⟨twp,twc,xwp,xwc⟩ ?_⟩
 exact h.to.fr (.c r2 (.c r2 (.c r2 .n)))
 have hg16:=cW hd8
 refine go h λw h=>?_
 refine rn (rK rfl) ?_
 rw[show Mw zs xb x.e=zs from if_pos hd6,show Yg ts x.e=ts from if_neg (λhz=>by have:=hz.2;omega)]
 have h:=SH.QD (h.drop.fr (.c r0 (.c r3 (.c r0 (.c r0 (.c r0 .n))))))
 refine⟨rfl,SH.wi ⟨twp,twc,xwp,xwc⟩ ?_⟩
 exact h.to.fr (.c r2 (.c r2 (.c r2 .n)))
end Go.Q9
end
