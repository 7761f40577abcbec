/- Parts of a proof: Tg, Th, Ti. -/
import Derived.Test.YtlpbjpanggcbbaaGreatW37
set_option linter.unusedVariables false
set_option linter.unusedSimpArgs false
set_option maxRecDepth 100000
set_option maxHeartbeats 4000000
section
namespace Go.Q9
open Go.Proofs.Tryz
open Go.RowKit Go.E
attribute [local irreducible] gB wpS
def Ii(z:Nat×Ct.Ex):List Value:=[↑z.1]
theorem RM(z:Nat×Ct.Ex):(Ii z).length=1:=rfl
theorem Ng(t:Ct.bC):(cU t).length=2:=rfl
theorem Iq{j:Nat}(h:(j:Int)<18446744073709551616):IntKind.u64.wrap (j:Int)=j:=by rw[IntKind.wrap_u64];omega
theorem B1{a b:Nat}(h:0<b):(a:Int).tmod (b:Int)=((a%b:Nat):Int):=by rw[Int.tmod_eq_emod_of_nonneg (by omega)];exact(Int.natCast_emod a b).symm
theorem kH{α:Type}{d:α}:∀{l:List α} {j:Nat},j<l.length->l.getD j d∈l
 |x::l,0,_=>.head _
 |x::l,j+1,h=>.tail _ (kH (by simpa using h))
structure Wq where
 pt:Option Addr:=none
 ct:Nat:=0
 px:Option Addr:=none
 cx:Nat:=0
def Uv(b mb aI:Nat)(ts:List Ct.bC)(zs:List (Nat×Ct.Ex))(q:Wq):List As:=
 [bl b [↑mb,.int .u64 (aI:Int),.slice q.pt ts.length q.ct,.slice q.px zs.length q.cx] 34,aU 38 2 (.slice q.pt ts.length q.ct) ts.length (ts.flatMap cU),aU 52 1 (.slice q.px zs.length q.cx) zs.length (zs.flatMap Ii)]
def nS(b mb aI:Nat)(ts:List Ct.bC)(zs:List (Nat×Ct.Ex)):As:=ex λq:Wq=>se (Uv b mb aI ts zs q)
variable{B w:World}{L:List As}
theorem _root_.Go.E.SH.wo{b mb aI:Nat}{ts:List Ct.bC}{zs:List (Nat×Ct.Ex)}(h:SH B w (nS b mb aI ts zs::L)):∃q,SH B w (Uv b mb aI ts zs q++L):=by
 obtain⟨q,h⟩:=SH.ex (f:=λq:Wq=>Go.E.se (Uv b mb aI ts zs q)) h
 exact⟨q,h.se⟩
theorem _root_.Go.E.SH.wi{b mb aI:Nat}{ts:List Ct.bC}{zs:List (Nat×Ct.Ex)}(q:Wq)(h:SH B w (Uv b mb aI ts zs q++L)):SH B w (nS b mb aI ts zs::L):=
 SH.dU (f:=λq:Wq=>Go.E.se (Uv b mb aI ts zs q)) q (SH.is h)
def d7(c:Ct.Call):List Value:=[↑c.kind,↑c.aE.root,↑c.aE.readOnly,↑c.a,↑c.b,↑c.n,↑c.index,.int .u64 (c.hash:Int),.int .u64 (c.aI:Int),↑c.key,.int .u64 (c.value:Int),.int .u64 (c.expect:Int),↑c.bF,↑c.only,↑c.walk.started,.slice none 0 0,.slice none 0 0,↑c.answer.err,↑c.answer.found,.int .u64 (c.answer.value:Int),↑c.answer.key,↑c.answer.count,↑c.answer.ref,↑c.answer.aE.root,↑c.answer.aE.readOnly]
theorem wN(b mb tb aI:Nat)(ts:List Ct.bC)(zs:List (Nat×Ct.Ex))(l:List Int)(kind:Int)(h:SH B w (nS b mb aI ts zs::gQ tb l::L))(ht:0<ts.length)(hl:ts.length<=5)(hk7:7<=kind)(hk12:kind<=12)(h0:(ts.getD 0 {}).readOnly=false):
  Calls prog 9 #[↑b,↑kind,↑tb] w λe w'=>∃c:Ct.Call,c.kind=kind/\c.aI=aI/\c.key.size<=8/\c.aE∈ts/\(c.kind=8\/c.kind=9\/c.kind=12->c.aE.readOnly=false)/\e=.returned (.agg (d7 c).toArray)/\SH B w' (nS b mb aI ts zs::gQ tb l::L):=by
 obtain⟨⟨twp,twc,xwp,xwc⟩,h⟩:=h.wo
 have h:SH B w (bl b ([↑mb,.int .u64 (aI:Int),.slice twp ts.length twc,.slice xwp zs.length xwc]) 34::aU 38 2 (.slice twp ts.length twc) ts.length (ts.flatMap cU)::aU 52 1 (.slice xwp zs.length xwc) zs.length (zs.flatMap Ii)::gQ tb l::L):=h
 refine Ea (args:=[_,_,_]) func9 rfl ntmps9 rfl ?_
 refine sq<|rg<|sf (al h Ej)<|?_
 rintro _ w ⟨b1,rfl,h⟩
 refine xe<|nx<|?_
 refine sm (λe w=>∃cb:Nat,∃ky:ByteArray,∃jv:Nat,∃jx:Nat,∃jp:Nat,∃only:Bool,Sub 109 e (.c 0 ↑b (.c 1 ↑kind (.c 2 ↑tb (.c 6 ↑b1 (.c 7 ↑cb .n)))))/\SH B w (bl cb ([↑kind,.int .i64 0,↑false,.int .i64 0,.int .i64 0,.int .i64 0,.int .i64 0,.int .u64 0,.int .u64 (aI:Int),↑ky,.int .u64 (jv:Int),.int .u64 (jx:Int),↑(jp:Int),↑only,↑false,.slice none 0 0,.slice none 0 0,.int .i64 0,↑false,.int .u64 0,.string .empty,.int .i64 0,.int .i64 0,.int .i64 0,↑false]) 48::bl b1 ([.int .i64 0,.int .i64 0,↑false,.int .i64 0,.int .i64 0,.int .i64 0,.int .i64 0,.int .u64 0,.int .u64 0,.string .empty,.int .u64 0,.int .u64 0,.int .i64 0,↑false,↑false,.slice none 0 0,.slice none 0 0,.int .i64 0,↑false,.int .u64 0,.string .empty,.int .i64 0,.int .i64 0,.int .i64 0,↑false]) 48::bl b ([↑mb,.int .u64 (aI:Int),.slice twp ts.length twc,.slice xwp zs.length xwc]) 34::aU 38 2 (.slice twp ts.length twc) ts.length (ts.flatMap cU)::aU 52 1 (.slice xwp zs.length xwc) zs.length (zs.flatMap Ii)::gQ tb l::L)/\(ky.size<=8)) ?_ ?_
 refine VS (F:=[bl b ([↑mb,.int .u64 (aI:Int),.slice twp ts.length twc,.slice xwp zs.length xwc]) 34]) (.op 0 true (.op 1 true (.op 2 true (.op 3 true (.op 4 true (.op 5 true (.op 7 true (.op 10 true (.op 13 true (.op 15 true (.fork 6 19 (.fork 8 19 (.op 9 true (.fork 11 19 (.op 12 true (.fork 14 19 (.fork 16 19 (.op 17 true (.op 18 true (.op 19 false (.op 20 false .stop)))) (.op 16 false (.op 17 true (.op 18 true (.op 20 false .stop))))) (.op 14 false (.op 16 false (.op 17 true (.op 18 true (.op 20 false .stop))))))) (.op 11 false (.op 12 true (.op 14 false (.op 16 false (.op 17 true (.op 18 true (.op 20 false .stop))))))))) (.op 8 false (.op 9 true (.op 11 false (.op 12 true (.op 14 false (.op 16 false (.op 17 true (.op 18 true (.op 20 false .stop)))))))))) (.op 6 false (.op 8 false (.op 9 true (.op 11 false (.op 12 true (.op 14 false (.op 16 false (.op 17 true (.op 18 true (.op 20 false .stop))))))))))))))))))))) (by kernel_rfl) h (λw h=>(hC (h.at_ a1) hN)) λw h=>tk (λW H=>mv rfl)<|tk (λW H=>mv rfl)<|tk (λW H=>nc rfl rfl)<|tk (λW H=>fa RV rfl)<|tk (λW H=>ld nC rfl (H.c a0 rfl))<|tk (λW H=>mv rfl)<|tk (λW H=>mv rfl)<|tk (λW H=>mv rfl)<|tk (λW H=>mv rfl)<|tk (λW H=>mv rfl)<|Mg ?_ ?_
 refine cs (ca eF rfl) ((VQ tb l (h.fr (.c r4 .n))).mono ?_)
 rintro _ w ⟨ky2,hk3,rfl,h⟩
 refine⟨_,rfl,(hC (h.at_ a2) hN),?_⟩
 refine Mg ?_ ?_
 refine cs (ca eF rfl) ((fB tb l 6 (h.fr (.c r0 .n)) (by omega) (by omega)).mono ?_)
 rintro _ w ⟨j4,hj5,rfl,h⟩
 refine⟨_,rfl,(hC (h.at_ a2) hN),?_⟩
 refine tk (λW H=>QM Lw xK rfl (Iq (by omega)))<|Mg ?_ ?_
 refine cs (ca eF rfl) ((fB tb l 6 (h.fr (.c r0 .n)) (by omega) (by omega)).mono ?_)
 rintro _ w ⟨j6,hj7,rfl,h⟩
 refine⟨_,rfl,(hC (h.at_ a2) hN),?_⟩
 refine tk (λW H=>QM Lw xK rfl (Iq (by omega)))<|Mg ?_ ?_
 refine cs (ca eF rfl) ((fB tb l 4 (h.fr (.c r0 .n)) (by omega) (by omega)).mono ?_)
 rintro _ w ⟨j8,hj9,rfl,h⟩
 refine⟨_,rfl,(hC (h.at_ a2) hN),?_⟩
 refine Mg ?_ ?_
 refine cs (ca eF rfl) ((fB tb l 3 (h.fr (.c r0 .n)) (by omega) (by omega)).mono ?_)
 rintro _ w ⟨j10,hj11,rfl,h⟩
 refine⟨_,rfl,(hC (h.at_ a2) hN),?_⟩
 refine tk (λW H=>bi rfl rfl rfl)<|tk (λW H=>bd [↑kind,.int .i64 0,↑false,.int .i64 0,.int .i64 0,.int .i64 0,.int .i64 0,.int .u64 0,.int .u64 (aI:Int),↑ky2,.int .u64 (j4:Int),.int .u64 (j6:Int),↑(j8:Int),.bool (((j10:Int):Int)==0),↑false,.slice none 0 0,.slice none 0 0,.int .i64 0,↑false,.int .u64 0,.string .empty,.int .i64 0,.int .i64 0,.int .i64 0,↑false] Oo rfl (by kernel_rfl))<|ff (al h Ej)<|?_
 rintro _ w ⟨b12,rfl,h⟩
 refine⟨(hC (h.at_ a3) hN),?_⟩
 refine ff (so h rfl rfl rfl xP rfl (.r (.r (.r (.r (.r (.r (.r (.r (.r (.r (.r (.r (.r (.r (.r (.r (.r (.r (.r (.r (.r (.r (.r (.r (.r .d))))))))))))))))))))))))) u0)<|?_
 rintro _ w h
 refine⟨(hC (h.at_ a3) hN),?_⟩
 refine WZ rfl<|nx<|?_
 exact⟨b12,ky2,j4,j6,j8,(((j10:Int):Int)==0),⟨rfl,rfl,rfl,rfl,rfl,trivial⟩,(h.fr (.c r0 (.c r1 (.c r1 (.c r1 (.c r1 (.c r0 .n))))))),hk3⟩
 refine ff (al h Ej)<|?_
 rintro _ w ⟨b13,rfl,h⟩
 refine⟨(hC (h.at_ a3) hN),?_⟩
 refine cs (ca eF rfl) ((fB tb l 3 (h.fr (.c r1 .n)) (by omega) (by omega)).mono ?_)
 rintro _ w ⟨j14,hj15,rfl,h⟩
 refine⟨_,rfl,(hC (h.at_ a3) hN),?_⟩
 refine tk (λW H=>bi rfl rfl rfl)<|tk (λW H=>bd [↑kind,.int .i64 0,↑false,.int .i64 0,.int .i64 0,.int .i64 0,.int .i64 0,.int .u64 0,.int .u64 (aI:Int),↑ky2,.int .u64 (j4:Int),.int .u64 (j6:Int),↑(j8:Int),.bool (((j14:Int):Int)==0),↑false,.slice none 0 0,.slice none 0 0,.int .i64 0,↑false,.int .u64 0,.string .empty,.int .i64 0,.int .i64 0,.int .i64 0,↑false] Oo rfl (by kernel_rfl))<|ff (so h rfl rfl rfl xP rfl (.r (.r (.r (.r (.r (.r (.r (.r (.r (.r (.r (.r (.r (.r (.r (.r (.r (.r (.r (.r (.r (.r (.r (.r (.r .d))))))))))))))))))))))))) u1)<|?_
 rintro _ w h
 refine⟨(hC (h.at_ a3) hN),?_⟩
 refine WZ rfl<|nx<|?_
 exact⟨b13,ky2,j4,j6,j8,(((j14:Int):Int)==0),⟨rfl,rfl,rfl,rfl,rfl,trivial⟩,(h.fr (.c r1 (.c r1 (.c r1 (.c r1 (.c r1 (.c r0 .n))))))),hk3⟩
 refine ff (al h Ej)<|?_
 rintro _ w ⟨b16,rfl,h⟩
 refine⟨(hC (h.at_ a3) hN),?_⟩
 refine cs (ca eF rfl) ((fB tb l 4 (h.fr (.c r1 .n)) (by omega) (by omega)).mono ?_)
 rintro _ w ⟨j17,hj18,rfl,h⟩
 refine⟨_,rfl,(hC (h.at_ a3) hN),?_⟩
 refine cs (ca eF rfl) ((fB tb l 3 (h.fr (.c r0 .n)) (by omega) (by omega)).mono ?_)
 rintro _ w ⟨j19,hj20,rfl,h⟩
 refine⟨_,rfl,(hC (h.at_ a3) hN),?_⟩
 refine tk (λW H=>bi rfl rfl rfl)<|tk (λW H=>bd [↑kind,.int .i64 0,↑false,.int .i64 0,.int .i64 0,.int .i64 0,.int .i64 0,.int .u64 0,.int .u64 (aI:Int),↑ky2,.int .u64 (j4:Int),.int .u64 (j6:Int),↑(j17:Int),.bool (((j19:Int):Int)==0),↑false,.slice none 0 0,.slice none 0 0,.int .i64 0,↑false,.int .u64 0,.string .empty,.int .i64 0,.int .i64 0,.int .i64 0,↑false] Oo rfl (by kernel_rfl))<|ff (so h rfl rfl rfl xP rfl (.r (.r (.r (.r (.r (.r (.r (.r (.r (.r (.r (.r (.r (.r (.r (.r (.r (.r (.r (.r (.r (.r (.r (.r (.r .d))))))))))))))))))))))))) u1)<|?_
 rintro _ w h
 refine⟨(hC (h.at_ a3) hN),?_⟩
 refine WZ rfl<|nx<|?_
 exact⟨b16,ky2,j4,j6,j17,(((j19:Int):Int)==0),⟨rfl,rfl,rfl,rfl,rfl,trivial⟩,(h.fr (.c r1 (.c r1 (.c r1 (.c r1 (.c r1 (.c r0 .n))))))),hk3⟩
 refine ff (al h Ej)<|?_
 rintro _ w ⟨b21,rfl,h⟩
 refine⟨(hC (h.at_ a3) hN),?_⟩
 refine cs (ca eF rfl) ((fB tb l 6 (h.fr (.c r1 .n)) (by omega) (by omega)).mono ?_)
 rintro _ w ⟨j22,hj23,rfl,h⟩
 refine⟨_,rfl,(hC (h.at_ a3) hN),?_⟩
 refine tk (λW H=>QM Lw xK rfl (Iq (by omega)))<|cs (ca eF rfl) ((fB tb l 4 (h.fr (.c r0 .n)) (by omega) (by omega)).mono ?_)
 rintro _ w ⟨j24,hj25,rfl,h⟩
 refine⟨_,rfl,(hC (h.at_ a3) hN),?_⟩
 refine cs (ca eF rfl) ((fB tb l 3 (h.fr (.c r0 .n)) (by omega) (by omega)).mono ?_)
 rintro _ w ⟨j26,hj27,rfl,h⟩
 refine⟨_,rfl,(hC (h.at_ a3) hN),?_⟩
 refine tk (λW H=>bi rfl rfl rfl)<|tk (λW H=>bd [↑kind,.int .i64 0,↑false,.int .i64 0,.int .i64 0,.int .i64 0,.int .i64 0,.int .u64 0,.int .u64 (aI:Int),↑ky2,.int .u64 (j4:Int),.int .u64 (j22:Int),↑(j24:Int),.bool (((j26:Int):Int)==0),↑false,.slice none 0 0,.slice none 0 0,.int .i64 0,↑false,.int .u64 0,.string .empty,.int .i64 0,.int .i64 0,.int .i64 0,↑false] Oo rfl (by kernel_rfl))<|ff (so h rfl rfl rfl xP rfl (.r (.r (.r (.r (.r (.r (.r (.r (.r (.r (.r (.r (.r (.r (.r (.r (.r (.r (.r (.r (.r (.r (.r (.r (.r .d))))))))))))))))))))))))) u1)<|?_
 rintro _ w h
 refine⟨(hC (h.at_ a3) hN),?_⟩
 refine WZ rfl<|nx<|?_
 exact⟨b21,ky2,j4,j22,j24,(((j26:Int):Int)==0),⟨rfl,rfl,rfl,rfl,rfl,trivial⟩,(h.fr (.c r1 (.c r1 (.c r1 (.c r1 (.c r1 (.c r0 .n))))))),hk3⟩
 refine ff (al h Ej)<|?_
 rintro _ w ⟨b28,rfl,h⟩
 refine⟨(hC (h.at_ a3) hN),?_⟩
 refine cs (ca eF rfl) ((fB tb l 6 (h.fr (.c r1 .n)) (by omega) (by omega)).mono ?_)
 rintro _ w ⟨j29,hj30,rfl,h⟩
 refine⟨_,rfl,(hC (h.at_ a3) hN),?_⟩
 refine tk (λW H=>QM Lw xK rfl (Iq (by omega)))<|cs (ca eF rfl) ((fB tb l 6 (h.fr (.c r0 .n)) (by omega) (by omega)).mono ?_)
 rintro _ w ⟨j31,hj32,rfl,h⟩
 refine⟨_,rfl,(hC (h.at_ a3) hN),?_⟩
 refine tk (λW H=>QM Lw xK rfl (Iq (by omega)))<|cs (ca eF rfl) ((fB tb l 4 (h.fr (.c r0 .n)) (by omega) (by omega)).mono ?_)
 rintro _ w ⟨j33,hj34,rfl,h⟩
 refine⟨_,rfl,(hC (h.at_ a3) hN),?_⟩
 refine cs (ca eF rfl) ((fB tb l 3 (h.fr (.c r0 .n)) (by omega) (by omega)).mono ?_)
 rintro _ w ⟨j35,hj36,rfl,h⟩
 refine⟨_,rfl,(hC (h.at_ a3) hN),?_⟩
 refine tk (λW H=>bi rfl rfl rfl)<|tk (λW H=>bd [↑kind,.int .i64 0,↑false,.int .i64 0,.int .i64 0,.int .i64 0,.int .i64 0,.int .u64 0,.int .u64 (aI:Int),↑ky2,.int .u64 (j29:Int),.int .u64 (j31:Int),↑(j33:Int),.bool (((j35:Int):Int)==0),↑false,.slice none 0 0,.slice none 0 0,.int .i64 0,↑false,.int .u64 0,.string .empty,.int .i64 0,.int .i64 0,.int .i64 0,↑false] Oo rfl (by kernel_rfl))<|ff (so h rfl rfl rfl xP rfl (.r (.r (.r (.r (.r (.r (.r (.r (.r (.r (.r (.r (.r (.r (.r (.r (.r (.r (.r (.r (.r (.r (.r (.r (.r .d))))))))))))))))))))))))) u1)<|?_
 rintro _ w h
 refine⟨(hC (h.at_ a3) hN),?_⟩
 refine WZ rfl<|nx<|?_
 exact⟨b28,ky2,j29,j31,j33,(((j35:Int):Int)==0),⟨rfl,rfl,rfl,rfl,rfl,trivial⟩,(h.fr (.c r1 (.c r1 (.c r1 (.c r1 (.c r1 (.c r0 .n))))))),hk3⟩
 refine ff (al h Ej)<|?_
 rintro _ w ⟨b37,rfl,h⟩
 refine⟨(hC (h.at_ a2) hN),?_⟩
 refine cs (ca eF rfl) ((VQ tb l (h.fr (.c r5 .n))).mono ?_)
 rintro _ w ⟨ky38,hk39,rfl,h⟩
 refine⟨_,rfl,(hC (h.at_ a3) hN),?_⟩
 refine cs (ca eF rfl) ((fB tb l 6 (h.fr (.c r0 .n)) (by omega) (by omega)).mono ?_)
 rintro _ w ⟨j40,hj41,rfl,h⟩
 refine⟨_,rfl,(hC (h.at_ a3) hN),?_⟩
 refine tk (λW H=>QM Lw xK rfl (Iq (by omega)))<|cs (ca eF rfl) ((fB tb l 6 (h.fr (.c r0 .n)) (by omega) (by omega)).mono ?_)
 rintro _ w ⟨j42,hj43,rfl,h⟩
 refine⟨_,rfl,(hC (h.at_ a3) hN),?_⟩
 refine tk (λW H=>QM Lw xK rfl (Iq (by omega)))<|cs (ca eF rfl) ((fB tb l 4 (h.fr (.c r0 .n)) (by omega) (by omega)).mono ?_)
 rintro _ w ⟨j44,hj45,rfl,h⟩
 refine⟨_,rfl,(hC (h.at_ a3) hN),?_⟩
 refine cs (ca eF rfl) ((fB tb l 3 (h.fr (.c r0 .n)) (by omega) (by omega)).mono ?_)
 rintro _ w ⟨j46,hj47,rfl,h⟩
 refine⟨_,rfl,(hC (h.at_ a3) hN),?_⟩
 refine tk (λW H=>bi rfl rfl rfl)<|tk (λW H=>bd [↑kind,.int .i64 0,↑false,.int .i64 0,.int .i64 0,.int .i64 0,.int .i64 0,.int .u64 0,.int .u64 (aI:Int),↑ky38,.int .u64 (j40:Int),.int .u64 (j42:Int),↑(j44:Int),.bool (((j46:Int):Int)==0),↑false,.slice none 0 0,.slice none 0 0,.int .i64 0,↑false,.int .u64 0,.string .empty,.int .i64 0,.int .i64 0,.int .i64 0,↑false] Oo rfl (by kernel_rfl))<|ff (so h rfl rfl rfl xP rfl (.r (.r (.r (.r (.r (.r (.r (.r (.r (.r (.r (.r (.r (.r (.r (.r (.r (.r (.r (.r (.r (.r (.r (.r (.r .d))))))))))))))))))))))))) u1)<|?_
 rintro _ w h
 refine⟨(hC (h.at_ a3) hN),?_⟩
 refine WZ rfl<|nx<|?_
 exact⟨b37,ky38,j40,j42,j44,(((j46:Int):Int)==0),⟨rfl,rfl,rfl,rfl,rfl,trivial⟩,(h.fr (.c r1 (.c r1 (.c r1 (.c r1 (.c r1 (.c r0 .n))))))),hk39⟩
 rintro e w ⟨cb,ky,jv,jx,jp,only,hE,h,hkc⟩
 refine C.sub hE ?_
 refine sq<|rg<|st (mv rfl)<|st (bi rfl rfl rfl)<|st (mv rfl)<|gT rfl rfl (beq_eq_false_iff_ne.2 (by omega))<|st (mv rfl)<|gT rfl rfl (beq_eq_false_iff_ne.2 (by omega))<|st (bi rfl rfl rfl)<|st (pF rfl (beq_eq_false_iff_ne.2 (by omega)) rfl)<|st (sg rfl)<|xe<|nx<|?_
 refine sm (λe w=>∃wr:Bool,Sub 109 e (.c 0 ↑b (.c 2 ↑tb (.c 6 ↑b1 (.c 7 ↑cb (.c 8 (.bool ((kind:Int)==13)) (.c 9 ↑wr .n))))))/\SH B w (bl cb ([↑kind,.int .i64 0,↑false,.int .i64 0,.int .i64 0,.int .i64 0,.int .i64 0,.int .u64 0,.int .u64 (aI:Int),↑ky,.int .u64 (jv:Int),.int .u64 (jx:Int),↑(jp:Int),↑only,↑false,.slice none 0 0,.slice none 0 0,.int .i64 0,↑false,.int .u64 0,.string .empty,.int .i64 0,.int .i64 0,.int .i64 0,↑false]) 48::bl b1 ([.int .i64 0,.int .i64 0,↑false,.int .i64 0,.int .i64 0,.int .i64 0,.int .i64 0,.int .u64 0,.int .u64 0,.string .empty,.int .u64 0,.int .u64 0,.int .i64 0,↑false,↑false,.slice none 0 0,.slice none 0 0,.int .i64 0,↑false,.int .u64 0,.string .empty,.int .i64 0,.int .i64 0,.int .i64 0,↑false]) 48::bl b ([↑mb,.int .u64 (aI:Int),.slice twp ts.length twc,.slice xwp zs.length xwc]) 34::aU 38 2 (.slice twp ts.length twc) ts.length (ts.flatMap cU)::aU 52 1 (.slice xwp zs.length xwc) zs.length (zs.flatMap Ii)::gQ tb l::L)/\(wr=false->¬(kind=8\/kind=9\/kind=12))) ?_ ?_
 refine rg<|st (mv rfl)<|st (bi rfl rfl rfl)<|st (mv rfl)<|?_
 rcases CG ((kind:Int)==8)with hd48|hd48
 refine gF rfl rfl hd48<|gF rfl rfl hd48<|st (pT rfl hd48 rfl)<|st (mv rfl)<|gF rfl rfl rfl<|gF rfl rfl rfl<|st (pT rfl rfl rfl)<|st (mv rfl)<|gF rfl rfl rfl<|gF rfl rfl rfl<|st (pT rfl rfl rfl)<|st (sg rfl)<|xe<|nx<|?_
 exact⟨true,⟨rfl,rfl,rfl,rfl,rfl,rfl,trivial⟩,h,(λhz=>Bool.noConfusion hz)⟩
 refine gT rfl rfl hd48<|st (mv rfl)<|gT rfl rfl hd48<|st (bi rfl rfl rfl)<|st (pF rfl hd48 rfl)<|st (mv rfl)<|?_
 rcases CG ((kind:Int)==9)with hd51|hd51
 refine gF rfl rfl hd51<|gF rfl rfl hd51<|st (pT rfl hd51 rfl)<|st (mv rfl)<|gF rfl rfl rfl<|gF rfl rfl rfl<|st (pT rfl rfl rfl)<|st (sg rfl)<|xe<|nx<|?_
 exact⟨true,⟨rfl,rfl,rfl,rfl,rfl,rfl,trivial⟩,h,(λhz=>Bool.noConfusion hz)⟩
 refine gT rfl rfl hd51<|st (mv rfl)<|gT rfl rfl hd51<|st (bi rfl rfl rfl)<|st (pF rfl hd51 rfl)<|st (mv rfl)<|?_
 rcases CG ((kind:Int)==12)with hd54|hd54
 refine gF rfl rfl hd54<|gF rfl rfl hd54<|st (pT rfl hd54 rfl)<|st (sg rfl)<|xe<|nx<|?_
 exact⟨true,⟨rfl,rfl,rfl,rfl,rfl,rfl,trivial⟩,h,(λhz=>Bool.noConfusion hz)⟩
 refine gT rfl rfl hd54<|st (mv rfl)<|gT rfl rfl hd54<|st (bi rfl rfl rfl)<|st (pF rfl hd54 rfl)<|st (sg rfl)<|xe<|nx<|?_
 exact⟨((kind:Int)==4),⟨rfl,rfl,rfl,rfl,rfl,rfl,trivial⟩,h,(λ_ hc=>by have hhd48:=eC hd48;have hhd51:=eC hd51;have hhd54:=eC hd54;omega)⟩
 rintro e w ⟨wr,hE,h,hwr⟩
 refine C.sub hE ?_
 refine sq<|rg<|st (mv rfl)<|st (mv rfl)<|st (nc rfl rfl)<|st (fa tM rfl)<|st (ld Jp rfl (h.c a2 rfl))<|st (ln Ik rfl rfl)<|cl (ca eF rfl) ((fB tb l (ts.length:Int) (h.fr (.c r5 .n)) (by omega) (by omega)).mono ?_)
 rintro _ w ⟨j57,hj58,rfl,h⟩
 refine⟨_,rfl,?_⟩
 refine st (sg rfl)<|xe<|nx<|sq<|sq<|rg<|st (sg rfl)<|xe<|nx<|bk<|?_
 refine lp (α:=Nat×Ct.bC) (λρ=>(.c 0 ↑b (.c 6 ↑b1 (.c 7 ↑cb (.c 8 (.bool ((kind:Int)==13)) (.c 9 ↑wr (.c 10 ↑(j57:Int) (.c 11 (.int .i64 (ρ.1:Int)) .n)))))))) (λρ w=>SH B w (bl cb ([↑kind,.int .i64 ρ.2.root,.bool ρ.2.readOnly,.int .i64 0,.int .i64 0,.int .i64 0,.int .i64 0,.int .u64 0,.int .u64 (aI:Int),↑ky,.int .u64 (jv:Int),.int .u64 (jx:Int),↑(jp:Int),↑only,↑false,.slice none 0 0,.slice none 0 0,.int .i64 0,↑false,.int .u64 0,.string .empty,.int .i64 0,.int .i64 0,.int .i64 0,↑false]) 48::gQ tb l::bl b1 ([.int .i64 0,.int .i64 0,↑false,.int .i64 0,.int .i64 0,.int .i64 0,.int .i64 0,.int .u64 0,.int .u64 0,.string .empty,.int .u64 0,.int .u64 0,.int .i64 0,↑false,↑false,.slice none 0 0,.slice none 0 0,.int .i64 0,↑false,.int .u64 0,.string .empty,.int .i64 0,.int .i64 0,.int .i64 0,↑false]) 48::bl b ([↑mb,.int .u64 (aI:Int),.slice twp ts.length twc,.slice xwp zs.length xwc]) 34::aU 38 2 (.slice twp ts.length twc) ts.length (ts.flatMap cU)::aU 52 1 (.slice xwp zs.length xwc) zs.length (zs.flatMap Ii)::L)/\(ρ.1<=ts.length)) (λρ=>ts.length-ρ.1) (0,({}:Ct.bC)) ⟨rfl,rfl,rfl,rfl,rfl,rfl,rfl,trivial⟩ ⟨(h.fr (.c r1 (.c r0 (.c r0 (.c r0 (.c r0 (.c r0 .n))))))),(dI _)⟩ ?_
 rintro⟨i,trx⟩ w ⟨h,hi⟩
 refine sq<|sq<|rg<|st (mv rfl)<|st (mv rfl)<|st (nc rfl rfl)<|st (fa tM rfl)<|st (ld Jp rfl (h.c a3 rfl))<|st (ln Ik rfl rfl)<|st (bi rfl rfl rfl)<|xe<|nx<|?_
 rcases CG (decide (((i:Int):Int)<(ts.length:Int)))with hd59|hd59
 have hg60:=Qa hd59
 refine ct rfl hd59<|sk<|nx<|sq<|bk<|sq<|?_
 have hmod:=Nat.mod_lt (j57+i) ht
 obtain⟨b61,rfl⟩:=h.fp a4 (by omega)
 refine dZ [1,3,5,7,9,11,13,15,17,19,21,23,25,27,29,31,32] (by kernel_rfl) h (.c r3 (.c r3 .n)) λw h=>tk (λW H=>mv rfl)<|tk (λW H=>nc rfl rfl)<|tk (λW H=>fa tM rfl)<|tk (λW H=>ld Jp rfl (H.c a0 rfl))<|tk (λW H=>mv rfl)<|tk (λW H=>mv rfl)<|tk (λW H=>bw rfl rfl (gN (c:=((j57+i:Nat):Int)) (by omega) (by omega) (by omega)))<|tk (λW H=>mv rfl)<|tk (λW H=>nc rfl rfl)<|tk (λW H=>fa tM rfl)<|tk (λW H=>ld Jp rfl (H.c a0 rfl))<|tk (λW H=>ln Ik rfl rfl)<|tk (λW H=>I8 rfl rfl (by omega) (B1 (by omega)))<|tk (λW H=>ix (j:=(j57+i)%ts.length) Ik Ec rfl rfl (by omega))<|tk (λW H=>gJ rfl ((H.ro a1).x Ng (by decide) (by omega) {}) Hc)<|tk (λW H=>fa Au rfl)<|ff (so h rfl rfl rfl Ec rfl (.s (.r (.r .d))) u0)<|?_
 rintro _ w h
 refine⟨h.hs (.c r3 (.c r3 .n)),?_⟩
 refine xz<|nx<|sq<|rg<|st (fa Au rfl)<|st (fa Ry rfl)<|st (ld xN rfl (h.c a0 rfl))<|st (mv rfl)<|?_
 rcases CG (ts.getD ((j57+i)%ts.length) {}).readOnly with hd62|hd62
 refine gT rfl rfl hd62<|st (mv rfl)<|gT rfl rfl hd62<|st (nt rfl)<|st (pT rfl hd62 rfl)<|st (mv rfl)<|?_
 rcases CG (!wr)with hd63|hd63
 have hd64:wr=false:=by simpa using hd63
 refine gF rfl rfl hd63<|gF rfl rfl hd63<|gF rfl rfl hd63<|gF rfl rfl hd63<|gF rfl rfl hd63<|gU rfl rfl<|gU rfl rfl<|gF rfl rfl hd63<|st (pT rfl hd63 rfl)<|xe<|nx<|cT rfl<|sq<|rg<|st (gJ rfl (dK (h.b a0)) yL)<|sf (so h rfl rfl rfl xP rfl (.r (.r (.r (.r (.r (.r (.r (.r (.r (.r (.r (.r (.r (.r (.r (.r (.r (.r (.r (.r (.r (.r (.r (.r (.r .d))))))))))))))))))))))))) u2)<|?_
 rintro _ w h
 refine xe<|nx<|rt<|bt<|tr<|tr<|bt<|tr<|?_
 refine rr (bP results9 rfl (h.b a2) yL)<|?_
 refine⟨({kind:=kind,aE:=(ts.getD ((j57+i)%ts.length) {}),aI:=aI,key:=ky,value:=jv,expect:=jx,bF:=jp,only:=only}:Ct.Call),rfl,rfl,hkc,?_,?_,rfl,(by have h:=((h.fr (.c r0 (.c r1 .n))).drop.drop.fr (.c r1 (.c r1 (.c r1 (.c r0 .n)))));exact SH.wi ⟨some ⟨b61,0,none⟩,twc,xwp,xwc⟩ h)⟩
 exact kH (Nat.mod_lt _ ht)
 exact λhc=>absurd hc (hwr (by simpa using hd64))
 have hd65:wr=true:=by simpa using hd63
 refine gT rfl rfl hd63<|st (fa Au rfl)<|gT rfl rfl hd63<|st (fa Ry rfl)<|gT rfl rfl hd63<|st (ld xN rfl (h.c a0 rfl))<|gT rfl rfl hd63<|st (nt rfl)<|gT rfl rfl hd63<|st (mv rfl)<|gF rfl rfl (sZ hd62)<|gF rfl rfl (sZ hd62)<|gT rfl rfl hd63<|st (pF rfl (sZ hd62) rfl)<|st (pF rfl hd63 rfl)<|xe<|nx<|cF rfl<|sk<|bn<|nx<|rg<|st (mv rfl)<|st (bw rfl rfl (gN (c:=((i+1:Nat):Int)) (by omega) (by omega) (by omega)))<|st (sg rfl)<|xe<|nx<|?_
 exact⟨((i+1),(ts.getD ((j57+i)%ts.length) {})),⟨rfl,rfl,rfl,rfl,rfl,rfl,rfl,trivial⟩,⟨h,by(try dsimp only);omega⟩,by(try dsimp only);omega⟩
 refine gF rfl rfl hd62<|gF rfl rfl hd62<|st (pF rfl hd62 rfl)<|st (mv rfl)<|gT rfl rfl rfl<|st (fa Au rfl)<|gT rfl rfl rfl<|st (fa Ry rfl)<|gT rfl rfl rfl<|st (ld xN rfl (h.c a0 rfl))<|gT rfl rfl rfl<|st (nt rfl)<|gT rfl rfl rfl<|st (mv rfl)<|gT rfl rfl (tJ hd62)<|st (mv rfl)<|gT rfl rfl (tJ hd62)<|st (nt rfl)<|gT rfl rfl rfl<|st (pT rfl (tJ hd62) rfl)<|st (pF rfl rfl rfl)<|xe<|nx<|ct rfl (tJ (beq_eq_false_iff_ne.2 (by omega)))<|sq<|rg<|st (gJ rfl (dK (h.b a0)) yL)<|sf (so h rfl rfl rfl xP rfl (.r (.r (.r (.r (.r (.r (.r (.r (.r (.r (.r (.r (.r (.r (.r (.r (.r (.r (.r (.r (.r (.r (.r (.r (.r .d))))))))))))))))))))))))) u2)<|?_
 rintro _ w h
 refine xe<|nx<|rt<|bt<|tr<|tr<|bt<|tr<|?_
 refine rr (bP results9 rfl (h.b a2) yL)<|?_
 refine⟨({kind:=kind,aE:=(ts.getD ((j57+i)%ts.length) {}),aI:=aI,key:=ky,value:=jv,expect:=jx,bF:=jp,only:=only}:Ct.Call),rfl,rfl,hkc,?_,?_,rfl,(by have h:=((h.fr (.c r0 (.c r1 .n))).drop.drop.fr (.c r1 (.c r1 (.c r1 (.c r0 .n)))));exact SH.wi ⟨some ⟨b61,0,none⟩,twc,xwp,xwc⟩ h)⟩
 exact kH (Nat.mod_lt _ ht)
 exact λ_=>hd62
 refine cf rfl hd59<|xt<|tx<|tx<|be<|nx<|sq<|rg<|st (mv rfl)<|st (nc rfl rfl)<|st (fa tM rfl)<|st (ld Jp rfl (h.c a3 rfl))<|?_
 obtain⟨b67,rfl⟩:=h.fp a4 (by omega)
 refine st (ix (j:=0) Ik Ec rfl rfl (by omega))<|st (gJ rfl ((h.ro a4).x Ng (by decide) (j:=0) (by omega) {}) Hc)<|st (fa Au rfl)<|sf (so h rfl rfl rfl Ec rfl (.s (.r (.r .d))) u0)<|?_
 rintro _ w h
 refine xe<|nx<|sq<|rg<|st (gJ rfl (dK (h.b a0)) yL)<|sf (so h rfl rfl rfl xP rfl (.r (.r (.r (.r (.r (.r (.r (.r (.r (.r (.r (.r (.r (.r (.r (.r (.r (.r (.r (.r (.r (.r (.r (.r (.r .d))))))))))))))))))))))))) u2)<|?_
 rintro _ w h
 refine xe<|nx<|rt<|?_
 refine rr (bP results9 rfl (h.b a2) yL)<|?_
 refine⟨({kind:=kind,aE:=(ts.getD 0 {}),aI:=aI,key:=ky,value:=jv,expect:=jx,bF:=jp,only:=only}:Ct.Call),rfl,rfl,hkc,?_,?_,rfl,(by have h:=((h.fr (.c r0 (.c r1 .n))).drop.drop.fr (.c r1 (.c r1 (.c r1 (.c r0 .n)))));exact SH.wi ⟨some ⟨b67,0,none⟩,twc,xwp,xwc⟩ h)⟩
 exact kH ht
 exact λ_=>h0
end Go.Q9
end
section
namespace Go.Q9
open Go.Proofs.Tryz
open Go.RowKit Go.E
attribute [local irreducible] gB wpS Go.E.X XS C jU kP fin Y U F Ca jT bl rb aU bV ex ce pu sK gK bK zK gM fO dH
def Mw(zs:List (Nat×Ct.Ex))(b:Nat)(e:Ct.Ex):List (Nat×Ct.Ex):=if e.done=true then zs else zs++[(b,e)]
def Yg(ts:List Ct.bC)(e:Ct.Ex):List Ct.bC:=if e.done=true/\0<e.result.aE.root/\ts.length<5 then ts++[e.result.aE]else ts
variable{B w:World}{L:List As}
theorem Wf(b mb xb aI:Nat)(ts:List Ct.bC)(zs:List (Nat×Ct.Ex))(x:Ct.X)(h:SH B w (nS b mb aI ts zs::XA xb mb x::eV mb zs::L))(ht:ts.length<=5)(hz:zs.length<=100):
  Calls prog 60 #[↑b,↑xb] w λe w'=>e=.returned (.tuple #[])/\SH B w' (nS b mb aI (Yg ts x.e) (Mw zs xb x.e)::eV mb (Mw zs xb x.e)::cR mb x.s::L):=by
 obtain⟨⟨twp,twc,xwp,xwc⟩,h⟩:=h.wo
 have h:SH B w (bl b ([↑mb,.int .u64 (aI:Int),.slice twp ts.length twc,.slice xwp zs.length xwc]) 34::aU 38 2 (.slice twp ts.length twc) ts.length (ts.flatMap cU)::aU 52 1 (.slice xwp zs.length xwc) zs.length (zs.flatMap Ii)::XA xb mb x::eV mb zs::L):=h
 refine bZ func60 ntmps60 h λw h=>?_
 refine bA (vH _ _ _ h.to) λw h=>?_
 refine qc h (λhd1 w h=>?_) λhd1 w h=>?_
 have hd2:x.e.done=false:=by simpa using hd1
 refine sf (bu [↑xb] h fR.h Ss.h rfl (by kernel_rfl) rfl (by decide) (by decide)) ?_
 rintro _ w ⟨b3,rfl,h⟩
 refine sf (ap h Yw rfl i1 rfl (by decide) rfl rfl (λ_=>u4) (h.ro a0) (by simp[Value.oneCell']) rfl (fW (enc:=Ii) _ (xb,x.e)) (by unfold maxLen;omega) (by omega))<|?_
 rintro _ w ⟨p4,c5,rfl,h⟩
 refine st (nc rfl rfl)<|st (fa Bo rfl)<|?_
 refine sf (so h rfl rfl rfl k6 rfl (.s (.s (.s (.r .d)))) u2)<|?_
 rintro _ w h
 refine xe<|?_
 refine rn (rK rfl) ?_
 rw[show Mw zs xb x.e=zs++[(xb,x.e)]from if_neg (by rw[hd2];decide),show Yg ts x.e=ts from if_neg (by rw[hd2];simp)]
 have h:=SH.VL (h.drop.fr (.c r0 (.c r3 (.c r0 (.c r0 (.c r0 .n))))))
 refine⟨rfl,SH.wi ⟨twp,twc,p4,c5⟩ ?_⟩
 unfold Uv;dsimp only;rw[tW,sX]
 exact h.fr (.c r2 (.c r2 (.c r2 .n)))
 have hd6:x.e.done=true:=by simpa using hd1
 refine bA (Kf _ _ _ h.to) λw h=>?_
 refine jA h λb7 w h=>?_
 refine qg h (λhd8 w h=>?_) λhd8 w h=>?_
 have hg9:=Qa hd8
 refine go h λw h=>?_
 refine qc h (λhd10 w h=>?_) λhd10 w h=>?_
 have hg11:=Qa hd10
 refine go h λw h=>?_
 refine Uc (F:=[bl b ([↑mb,.int .u64 (aI:Int),.slice twp ts.length twc,.slice xwp zs.length xwc]) 34,bl b7 (xC x.e.result) 46]) [(true,[1,3,5,7,9,11,13,14,16,19,21]),(false,[22])] (by kernel_rfl) h (λw h=>(hC (h.at_ a2) (hC (h.at_ a0) hN))) λw h=>go h λw h=>?_
 refine tk (λW H=>gJ (cs:=[↑x.e.result.aE.root,↑x.e.result.aE.readOnly]) rfl (eP (H.b a1) 6 rfl) Row.h)<|go h λw h=>?_
 refine ff (bu [↑x.e.result.aE.root,↑x.e.result.aE.readOnly] h fR.h Ss.h rfl (by kernel_rfl) rfl (by decide) (by decide)) ?_
 rintro _ w ⟨b12,rfl,h⟩
 refine gz h λw h=>?_
 refine ff (ap h Ik rfl VR rfl (by decide) rfl rfl (λ_=>u4) (h.ro a0) (by simp[Value.oneCell']) rfl (fW (enc:=cU) _ x.e.result.aE) (by unfold maxLen;omega) (by omega))<|?_
 rintro _ w ⟨p13,c14,rfl,h⟩
 refine⟨(hC (h.at_ a3) (hC (h.at_ a1) hN)),?_⟩
 refine tk (λW H=>nc rfl rfl)<|tk (λW H=>fa tM rfl)<|Zp<|?_
 refine ff (so h rfl rfl rfl VJ rfl (.s (.s (.r .d))) u3)<|?_
 rintro _ w h
 refine⟨trivial,?_⟩
 refine xz<|?_
 refine go h λw h=>?_
 refine rn (rK rfl) ?_
 rw[show Mw zs xb x.e=zs from if_pos hd6,show Yg ts x.e=ts++[x.e.result.aE]from if_pos ⟨hd6,by omega,by omega⟩]
 have h:=SH.Qi (h.drop.drop.fr (.c r0 (.c r3 (.c r0 (.c r0 (.c r0 .n))))))
 refine⟨rfl,SH.wi ⟨p13,c14,xwp,xwc⟩ ?_⟩
 unfold Uv;dsimp only;rw[tW,sX]
 exact h.to.fr (.c r2 (.c r2 (.c r2 .n)))
 have hg15:=zG hd10
 refine go h λw h=>?_
 refine rn (rK rfl) ?_
 rw[show Mw zs xb x.e=zs from if_pos hd6,show Yg ts x.e=ts from if_neg (λhz=>by have:=hz.2;omega)]
 have h:=SH.Qi (h.drop.fr (.c r0 (.c r3 (.c r0 (.c r0 (.c r0 .n))))))
 refine⟨rfl,SH.wi ⟨twp,twc,xwp,xwc⟩ ?_⟩
 exact h.to.fr (.c r2 (.c r2 (.c r2 .n)))
 have hg16:=zG hd8
 refine go h λw h=>?_
 refine rn (rK rfl) ?_
 rw[show Mw zs xb x.e=zs from if_pos hd6,show Yg ts x.e=ts from if_neg (λhz=>by have:=hz.2;omega)]
 have h:=SH.Qi (h.drop.fr (.c r0 (.c r3 (.c r0 (.c r0 (.c r0 .n))))))
 refine⟨rfl,SH.wi ⟨twp,twc,xwp,xwc⟩ ?_⟩
 exact h.to.fr (.c r2 (.c r2 (.c r2 .n)))
end Go.Q9
end
section
namespace Go.Q9
open Go.Proofs.Tryz
open Go.RowKit Go.E
attribute [local irreducible] gB wpS Go.E.X XS C jU kP fin Y U F Ca jT bl rb aU bV ex ce pu sK gK bK zK gM fO dH
variable{B w:World}{L:List As}
theorem NA(b mb aI k n:Nat)(s:Ct.St)(ts:List Ct.bC)(zs:List (Nat×Ct.Ex))(g:Ct.Ga)(c:Ct.Call)(h:SH B w (nS b mb aI ts zs::eV mb zs::cR mb s::L))(hW:Ct.Lc k g s ts zs)(hk:k<=40)(hc:Ct.kZ g c)(hm:c.aI<18446744073709551616)(hky:c.key.size<=9223372036854775807)(hn:n<=1048576):
  Calls prog 23 #[↑b,.agg [↑c.kind,↑c.aE.root,↑c.aE.readOnly,↑c.a,↑c.b,↑c.n,↑c.index,.int .u64 (c.hash:Int),.int .u64 (c.aI:Int),↑c.key,.int .u64 (c.value:Int),.int .u64 (c.expect:Int),↑c.bF,↑c.only,↑c.walk.started,.slice none 0 0,.slice none 0 0,↑c.answer.err,↑c.answer.found,.int .u64 (c.answer.value:Int),↑c.answer.key,↑c.answer.count,↑c.answer.ref,↑c.answer.aE.root,↑c.answer.aE.readOnly].toArray,↑(n:Int)] w λe w'=>∃g' s' ts' zs',Ct.Lc (k+1) g' s' ts' zs'/\e=.returned (.tuple #[])/\SH B w' (nS b mb aI ts' zs'::eV mb zs'::cR mb s'::L):=by
 have hroom:s.size<=Ct.room:=by have:=hW.size;unfold Ct.room;omega
 obtain⟨⟨twp,twc,xwp,xwc⟩,h⟩:=h.wo
 have h:SH B w (bl b ([↑mb,.int .u64 (aI:Int),.slice twp ts.length twc,.slice xwp zs.length xwc]) 34::aU 38 2 (.slice twp ts.length twc) ts.length (ts.flatMap cU)::aU 52 1 (.slice xwp zs.length xwc) zs.length (zs.flatMap Ii)::eV mb zs::cR mb s::L):=h
 refine bZ func23 ntmps23 h λw h=>?_
 refine jX h λb1 w h=>?_
 refine dZ [1,3,5,7,9,10,12] (by kernel_rfl) h (.c r1 (.c r0 .n)) λw h=>go h λw h=>?_
 refine TA (rW _ _ c _ h.to (Ct.gW hW.fit hroom).1 (Ct.gW hW.fit hroom).2 (by decide) hm hky hc.lo hc.hi) λxb2 w h k=>?_
 have hl:=Ct.uM.start hW.gw hW.PI hW.fit hc hm hky k
 refine lp (α:=Ct.X×Nat) (λρ=>(.c 0 ↑b (.c 2 ↑(n:Int) (.c 6 ↑xb2 (.c 7 (.int .i64 (ρ.2:Int)) .n))))) (λρ w=>SH B w (XA xb2 mb ρ.1::bl b1 ([↑c.kind,↑c.aE.root,↑c.aE.readOnly,↑c.a,↑c.b,↑c.n,↑c.index,.int .u64 (c.hash:Int),.int .u64 (c.aI:Int),↑c.key,.int .u64 (c.value:Int),.int .u64 (c.expect:Int),↑c.bF,↑c.only,↑c.walk.started,.slice none 0 0,.slice none 0 0,↑c.answer.err,↑c.answer.found,.int .u64 (c.answer.value:Int),↑c.answer.key,↑c.answer.count,↑c.answer.ref,↑c.answer.aE.root,↑c.answer.aE.readOnly]) 48::bl b ([↑mb,.int .u64 (aI:Int),.slice twp ts.length twc,.slice xwp zs.length xwc]) 34::aU 38 2 (.slice twp ts.length twc) ts.length (ts.flatMap cU)::aU 52 1 (.slice xwp zs.length xwc) zs.length (zs.flatMap Ii)::eV mb zs::L)/\(Ct.uM g s.size ρ.2 ρ.1)/\(ρ.2<=n)) (λρ=>n-ρ.2) ((Ct.bX (Ct.bY c Ct.FU) 0 (⟨{call:=c},s⟩:Ct.X)),0) ⟨rfl,rfl,rfl,rfl,trivial⟩ ⟨h,hl,(dI _)⟩ ?_
 rintro⟨y,i⟩ w ⟨h,hl,hi⟩
 dsimp only at *
 refine go h λw h=>?_
 refine bA (vH _ _ _ h.to) λw h=>?_
 refine qg h (λhd3 w h=>?_) λhd3 w h=>?_
 ·have hd4:y.e.done=false:=by simpa using hd3
  refine go h λw h=>?_
  refine qc h (λhd5 w h=>?_) λhd5 w h=>?_
  ·have hg6:=Qa hd5
   refine go h λw h=>?_
   have hrd:s.size+199*i+120<=Ct.room:=by have:=hW.size;unfold Ct.room;omega
   refine go h λw h=>?_
   refine SS (Pq _ _ _ _ h.to hd4 (hl.ready hrd).1 (hl.ready hrd).2 (by decide) hl.call.1 hl.call.2.1 hl.call.2.2.1 hl.call.2.2.2) λw h k=>?_
   exact⟨((Ct.bX (Ct.bY y.e.call Ct.FU) 1 y),(i+1)),⟨rfl,rfl,rfl,rfl,trivial⟩,⟨h,(hl.step hd4 (by unfold Ct.Cx;omega) k),by(try dsimp only);omega⟩,by(try dsimp only);omega⟩
  ·have hg7:=zG hd5
   refine go h λw h=>?_
   have h:=h.fr (.c r2 (.c r2 (.c r2 .n)))
   have h:SH B w (nS b mb aI ts zs::XA xb2 mb y::bl b1 ([↑c.kind,↑c.aE.root,↑c.aE.readOnly,↑c.a,↑c.b,↑c.n,↑c.index,.int .u64 (c.hash:Int),.int .u64 (c.aI:Int),↑c.key,.int .u64 (c.value:Int),.int .u64 (c.expect:Int),↑c.bF,↑c.only,↑c.walk.started,.slice none 0 0,.slice none 0 0,↑c.answer.err,↑c.answer.found,.int .u64 (c.answer.value:Int),↑c.answer.key,↑c.answer.count,↑c.answer.ref,↑c.answer.aE.root,↑c.answer.aE.readOnly]) 48::eV mb zs::L):=SH.wi ⟨twp,twc,xwp,xwc⟩ h
   refine go h λw h=>?_
   refine bA (Wf b mb xb2 aI ts zs y h.to hW.Qr (by have:=hW.RZ;omega)) λw h=>?_
   refine rn (rK rfl) ?_
   obtain⟨g',hW'⟩:=hW.m6 (b:=xb2) hl (by omega)
   exact⟨g',_,_,_,hW',rfl,h.to⟩
 ·have hd8:y.e.done=true:=by simpa using hd3
  refine go h λw h=>?_
  have h:=h.fr (.c r2 (.c r2 (.c r2 .n)))
  have h:SH B w (nS b mb aI ts zs::XA xb2 mb y::bl b1 ([↑c.kind,↑c.aE.root,↑c.aE.readOnly,↑c.a,↑c.b,↑c.n,↑c.index,.int .u64 (c.hash:Int),.int .u64 (c.aI:Int),↑c.key,.int .u64 (c.value:Int),.int .u64 (c.expect:Int),↑c.bF,↑c.only,↑c.walk.started,.slice none 0 0,.slice none 0 0,↑c.answer.err,↑c.answer.found,.int .u64 (c.answer.value:Int),↑c.answer.key,↑c.answer.count,↑c.answer.ref,↑c.answer.aE.root,↑c.answer.aE.readOnly]) 48::eV mb zs::L):=SH.wi ⟨twp,twc,xwp,xwc⟩ h
  refine go h λw h=>?_
  refine bA (Wf b mb xb2 aI ts zs y h.to hW.Qr (by have:=hW.RZ;omega)) λw h=>?_
  refine rn (rK rfl) ?_
  obtain⟨g',hW'⟩:=hW.m6 (b:=xb2) hl (by omega)
  exact⟨g',_,_,_,hW',rfl,h.to⟩
end Go.Q9
end
