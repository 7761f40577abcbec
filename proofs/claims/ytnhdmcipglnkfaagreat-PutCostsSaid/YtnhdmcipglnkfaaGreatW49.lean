/- Parts of a proof: Pu. -/
import Derived.Test.YtnhdmcipglnkfaaGreatW47
import Derived.Test.YtnhdmcipglnkfaaGreatW48
set_option linter.unusedVariables false
set_option linter.unusedSimpArgs false
set_option maxRecDepth 100000
set_option maxHeartbeats 4000000
section
namespace Go.Q9
open Go.Proofs.Tryz
open Go.RowKit Go.E
attribute [local irreducible] gA wpS Go.E.X XS C kV lL fin Y U F Ca kU bl rb aV bS ex ce pu sK gK bK zK gG fE cZ gY mA rQ
open Go.Ct (qN qA qC qG qT qF)
def Ac(S:fX)(c:Ct.Call)(gn pa i lv:Int):List Value:=[S.v,↑c.aF.root,↑c.aF.readOnly,↑c.key,.int .u64 ((Ct.aE c.key c.aI:Nat):Int),.int .u64 (c.value:Int),↑c.bF,.int .u64 (c.expect:Int),↑gn,↑pa,↑i,↑lv]
def kW(S:fX)(c:Ct.Call)(K N n:Nat):Prop:=∀(wb:Nat) (gn pa i lv:Int) (B w:World) (L:List As) (s:Ct.St),SH B w (bl wb (Ac S c gn pa i lv) 158::S.a s::L)->Ct.Rm 30 s->
 Calls prog 100 #[↑wb] w λe w'=>CP S jG n B (Ct.aY c K N) s L e w'
def pC(S:fX)(c:Ct.Call)(K N kf n:Nat):Prop:=∀(wb:Nat) (gn pa i lv b:Int) (B w:World) (L:List As) (s:Ct.St),SH B w (bl wb (Ac S c gn pa i lv) 158::S.a s::L)->Ct.Rm 30 s->0<=lv/\lv+1+kf<=4000000000000000000->
 Calls prog 243 #[↑wb,↑b] w λe w'=>CP S jG n B (Ct.eE c (Ct.aE c.key c.aI) gn (Ct.aY c K N) kf i b (lv+1)) s L e w'
theorem xR{L M:Nat}{n:Ct.Node}(h:n.Fit L)(i r:Int):(Ct.aM n i r).1.Fit M:=by
 have f:=Ct.fY h i r
 have e:(Ct.aM n i r).1.aH=[]:=by unfold Ct.aM;split<;>rfl
 exact⟨⟨f.1.1,by rw[e];exact bZ _,f.1.2.2⟩,f.2⟩
theorem Ho(a b:Nat):((a:Int)==(b:Int))=(a==b):=by rw[Bool.eq_iff_iff];simp only[Ae];omega
theorem XV{s:Ct.St}{b:Int}(h:((s.node b).kind==4)=true):1<=b:=by
 have h:=eq_of_beq h
 by_cases hb:1<=b
 ·exact hb
 ·exfalso;revert h;unfold Ct.St.node;rw[if_pos (by omega)];decide
variable{B w:World}{L:List As}
theorem sP(S:fX)(c:Ct.Call)(wb:Nat)(gn pa i lv:Int)(found:Bool)(v:Nat)(h:SH B w (bl wb (Ac S c gn pa i lv) 158::L)):
  Calls prog 235 #[↑wb,↑found,.int .u64 (v:Int)] w λe w'=>e=.returned (.bool (Ct.cB c found v))/\SH B w' (bl wb (Ac S c gn pa i lv) 158::L):=by
 refine cN func235 ntmps235 h λw h=>?_
 refine qc h (λdF w h=>?_) λdF w h=>?_
 ·have xZ:=eq_of_beq dF
  refine go h λw h=>?_
  refine rz ?_
  refine⟨?_,h⟩
  simp_all [Ct.cB,Ho]
 ·have Lt:=bM dF
  refine go h λw h=>?_
  refine qc h (λeB w h=>?_) λeB w h=>?_
  ·have Vu:=eq_of_beq eB
   refine go h λw h=>?_
   refine rz ?_
   refine⟨?_,h⟩
   simp_all [Ct.cB,Ho]
  ·have CX:=bM eB
   refine go h λw h=>?_
   refine qc h (λfF w h=>?_) λfF w h=>?_
   ·have Ua:=eq_of_beq fF
    refine go h λw h=>?_
    refine qg h (λwE w h=>?_) λwE w h=>?_
    ·refine rz ?_
     refine⟨?_,h⟩
     simp_all [Ct.cB,Ho]
    ·refine rz ?_
     refine⟨?_,h⟩
     simp_all [Ct.cB,Ho]
   ·have L7:=bM fF
    refine go h λw h=>?_
    refine rz ?_
    refine⟨?_,h⟩
    simp_all [Ct.cB,Ho]
theorem Sy(S:fX)(c:Ct.Call)(nK:c.key.size<=64)(K N kf n:Nat)(oP:∀j,j<=n->kW S c K N j)(vC:∀j,j<=n->pC S c K N kf j)(gX fM jD:Nat)(found:Bool)(v:Nat)(wb:Nat)(gn pa i lv:Int){m:Nat}(hm:m<=n)(ok:Bool)(s:Ct.St)(h:SH B w (rb gX ([↑wb]) 156::rb fM ([↑found]) 4::rb jD ([.int .u64 (v:Int)]) 28::bl wb (Ac S c gn pa i lv) 158::S.a s::L))(hs:Ct.Rm 40 s):
  Calls prog 269 #[↑ok,↑gX,↑fM,↑jD] w λe w'=>CP S jG m B ((λok_b=>bif !ok_b then(Ct.aY c K N)else .ret (Ct.dL found v)) ok) s L e w':=by
 have yA:=Ct.eS c.key c.aI
 refine cN func269 ntmps269 h λw h=>?_
 refine jA h λb1 w h=>?_
 refine qc h (λcO w h=>?_) λcO w h=>?_
 have cJ:ok=false:=(gZ _).mp cO
 refine go h λw h=>?_
 refine lA (oP m hm wb gn pa i lv _ _ _ s h.to (hs.less (by decide))) λs4 t5 c6 PZ w h=>?_
 refine rr (cD rfl rfl (h.b a2) Row.h) ?_
 exact jW (qT cO (PZ)) h.to
 have fG:ok=true:=(hU _).mp cO
 refine go h λw h=>?_
 refine bQ (oG ({found:=found,value:=v,count:=1}:Ct.Result) h.to) λw h=>?_
 refine rr (cD rfl rfl (h.b a0) Row.h) ?_
 have h:=kD (S:=S) (n:=m) (r:=({found:=found,value:=v,count:=1}:Ct.Result)) h
 exact jW (qF cO rfl) h.to
theorem mY(S:fX)(c:Ct.Call)(nK:c.key.size<=64)(K N kf n:Nat)(oP:∀j,j<=n->kW S c K N j)(vC:∀j,j<=n->pC S c K N kf j)(wb:Nat)(gn pa i lv:Int)(m1:Int)(nd:Ct.Node)(qnd:Lq)(ok0:Bool)(found:Bool)(v:Nat)(s:Ct.St)(h:SH B w (bl wb (Ac S c gn pa i lv) 158::aL nd qnd::S.a s::L))(hs:Ct.Rm 33 s)(ft_nd:Ct.Node.Fit (s.aG.length+1) nd):
  Calls prog 238 #[↑wb,↑m1,.agg (aK nd qnd).toArray,↑ok0,↑found,.int .u64 (v:Int)] w λe w'=>CP S jG n B (bif !ok0 then .ret {}else .alloc nd m1 λr=>Ct.swapT c.aF i m1 r λok=>bif !ok then Ct.aY c K N else .ret (Ct.dL found v)) s L e w':=by
 refine cN func238 ntmps238 h λw h=>?_
 refine jX h λb1 w h=>?_
 refine jX h λb2 w h=>?_
 refine jX h λb3 w h=>?_
 refine jX h λb4 w h=>?_
 refine jA h λb5 w h=>?_
 refine qc h (λdJ w h=>?_) λdJ w h=>?_
 refine go h λw h=>?_
 refine bQ (oG ({}:Ct.Result) h.to) λw h=>?_
 refine rc h ?_
 have h:=kD (S:=S) (n:=n) (r:=({}:Ct.Result)) h
 exact jW (qT dJ rfl) h.to
 have fG:=(hU _).mp dJ
 refine go h λw h=>?_
 have h:=SH.tH (h.fr (.c r4 .n))
 have h:=SH.tH (h.fr (.c r3 .n))
 have h:=SH.tH (h.fr (.c r3 .n))
 refine DD (F:=[rb b1 ([↑wb]) 156,bl wb (Ac S c gn pa i lv) 158,bl b2 (aK nd qnd) 53]) [(true,[1,3,5,7,9,11,13,15,17,19,21,23,25,27,29,31,35,32]),(false,[36,38])] (by kernel_rfl) h (λw h=>(hC (h.at_ a2) (hC (h.at_ a5) (hC (h.at_ a4) hN)))) λw h=>go h λw h=>?_
 refine tk (λW H=>kB (cs:=[S.v,↑c.aF.root,↑c.aF.readOnly]) rfl (hX (H.b a1) 0 rfl) Row.h)<|go h λw h=>?_
 refine cs (ci (S.sA h a7) rfl rfl) ((dY S s nd qnd m1 h.to hs (ft_nd.mono (by first|omega|(simp only[dC];omega)))).mono ?_)
 rintro _ w ⟨rfl,h⟩
 have hs:=hs.alloc (ft_nd.mono (by first|omega|(simp only[dC];omega))) m1
 refine⟨_,rfl,(hC (h.at_ a3) (hC (h.at_ a6) (hC (h.at_ a5) hN))),?_⟩
 refine go h λw h=>?_
 have h:=h.jF a1
 have h:=h.jF a3
 have h:=h.jF a5
 have h:=h.fr (.c r0 (.c r0 (.c r0 (.c r6 .n))))
 have h:=SA (j:=60) (S:=S) (F:=jG) (n:=n) (args:=iC) (k:=(λok_b=>bif !ok_b then(Ct.aY c K N)else .ret (Ct.dL found v))) (v:=(.fn 269 [] [↑b1,↑b3,↑b4])) [rb b1 ([↑wb]) 156,rb b3 ([↑found]) 4,rb b4 ([.int .u64 (v:Int)]) 28,bl wb (Ac S c gn pa i lv) 158] h λm' nN B' w' L' s' x' h' mD=>Bt eF (Sy S c nK K N kf m' (λj hj=>oP j (kR hj (wO nN))) (λj hj=>vC j (kR hj (wO nN))) b1 b3 b4 found v wb gn pa i lv (aW _) x' s' h' (mD.less (by decide)))
 refine OI (Ee S jG _ _ _ _ (.fn 269 [] [↑b1,↑b3,↑b4]) (λok_b=>bif !ok_b then(Ct.aY c K N)else .ret (Ct.dL found v)) _ _ h.to (hs.less (by decide))) λs9 t10 c11 Ty w h=>?_
 refine rc h ?_
 exact jW (qF dJ (qA (Ty))) h.to
theorem qU(S:fX)(found:Bool)(v:Nat)(n:Nat)(s:Ct.St)(h:SH B w (S.a s::L))(_hs:Ct.Rm 30 s):
  Calls prog 236 #[↑found,.int .u64 (v:Int)] w λe w'=>CP S jG n B ((.ret (Ct.dN found v):Ct.I Ct.Result)) s L e w':=by
 refine cN func236 ntmps236 h λw h=>?_
 refine jA h λb1 w h=>?_
 refine bQ (oG ({found:=found,value:=v}:Ct.Result) h.to) λw h=>?_
 refine rr (cD rfl rfl (h.b a0) Row.h) ?_
 have h:=kD (S:=S) (n:=n) (r:=({found:=found,value:=v}:Ct.Result)) h
 exact jW (rfl) h.to
theorem IF(S:fX)(c:Ct.Call)(nK:c.key.size<=64)(K N kf n:Nat)(oP:∀j,j<=n->kW S c K N j)(vC:∀j,j<=n->pC S c K N kf j)(wb:Nat)(gn pa i lv:Int)(m1:Int)(nd:Ct.Node)(qnd:Lq)(s:Ct.St)(h:SH B w (bl wb (Ac S c gn pa i lv) 158::aL nd qnd::S.a s::L))(hs:Ct.Rm 40 s)(DI:nd.kind=6)(ft_nd:Ct.Node.Fit s.aG.length nd):
  Calls prog 206 #[↑wb,↑m1,.agg (aK nd qnd).toArray] w λe w'=>CP S jG n B (Ct.lF c (Ct.aY c K N) i m1 nd) s L e w':=by
 have sz_nd:=lC hs
 have nf_nd:=ft_nd.nf (by omega)
 refine cN func206 ntmps206 h λw h=>?_
 refine jX h λb1 w h=>?_
 refine sf (al h GV)<|?_
 rintro _ w ⟨b2,rfl,h⟩
 refine xe<|nx<|?_
 refine sm (λe w=>Sub 49 e (.c 0 ↑wb (.c 1 ↑m1 (.c 5 ↑b1 (.c 6 ↑b2 (.c 7 (.int .u64 (((Ct.bN nd.aH c.key).1:Nat):Int)) (.c 8 (.bool (Ct.bN nd.aH c.key).2) .n))))))/\SH B w (bl b2 ([.int .i64 0,.int .i64 0,.int .i64 0,.int .i64 0,.nilFunc,.nilFunc,.int .i64 0,↑false,.int .u64 0,.string .empty,.int .i64 0,.int .i64 0,.int .i64 0,↑false]) 94::bl b1 (aK nd qnd) 53::bl wb (Ac S c gn pa i lv) 158::aL nd qnd::S.a s::L)) ?_ ?_
 have h:=SH.Wr h a3
 have h:=SH.se (l:=[bE nd qnd,cP nd qnd]) h
 have KW:=(Ct.iW (nf_nd.v6 DI)).pJ DI
 have pQ:=ft_nd.1.2.1
 refine fD [1,3,5,7,9,11,12,15,17,19,20,22] (by kernel_rfl) h (.c r3 (.c r3 .n)) λw h=>go h λw h=>?_
 refine qB (LK _ _ _ _ h.to KW (by omega)) λw h=>?_
 exact⟨⟨rfl,rfl,rfl,rfl,rfl,rfl,trivial⟩,h.drop.drop⟩
 rintro e w ⟨hE,h⟩
 refine C.sub hE ?_
 clear hE e
 refine go h λw h=>?_
 refine bQ (sP S c _ _ _ _ _ _ _ h.to) λw h=>?_
 rcases dQ (!(Ct.cB c (Ct.bN nd.aH c.key).2 (Ct.bN nd.aH c.key).1))with cJ|cJ
 have eB:=(gZ _).mp cJ
 refine go h λw h=>?_
 refine lA (qU S (Ct.bN nd.aH c.key).2 (Ct.bN nd.aH c.key).1 n s h.to (hs.less (by decide))) λs5 t6 c7 hq8 w h=>?_
 refine rc h ?_
 exact jW (qT cJ (hq8)) h.to
 have wE:=(hU _).mp cJ
 refine cf rfl cJ<|sk<|nx<|?_
 refine sm (λe w=>∃Uf:Nat,∃wI:Lq,Sub 49 e (.c 0 ↑wb (.c 1 ↑m1 (.c 6 ↑b2 (.c 7 (.int .u64 (((Ct.bN nd.aH c.key).1:Nat):Int)) (.c 8 (.bool (Ct.bN nd.aH c.key).2) (.c 9 ↑Uf (.c 10 (.bool (Ct.grown nd c.key c.value).2) .n)))))))/\SH B w (bl Uf (aK (Ct.grown nd c.key c.value).1 wI) 53::aL (Ct.grown nd c.key c.value).1 wI::aL nd qnd::bl wb (Ac S c gn pa i lv) 158::bl b2 ([.int .i64 0,.int .i64 0,.int .i64 0,.int .i64 0,.nilFunc,.nilFunc,.int .i64 0,↑false,.int .u64 0,.string .empty,.int .i64 0,.int .i64 0,.int .i64 0,↑false]) 94::bl b1 (aK nd qnd) 53::S.a s::L)) ?_ ?_
 refine drB (F:=[bl b1 (aK nd qnd) 53,bl wb (Ac S c gn pa i lv) 158]) [1,3,5,7,9,11,13,15,17] 9 13 [21,23,25,26,28,30] [18,21,23,25,28,30] (by kernel_rfl) h (λw h=>(hC (h.at_ a2) (hC (h.at_ a0) hN))) λw h=>go h λw h=>?_
 refine W3 ?_ ?_
 refine nP (Pb _ _ _ _ h.to nf_nd (by have:=ft_nd.1.2.1;omega)) λwI w h=>?_
 refine jB h λUf w h=>?_
 exact⟨Uf,wI,⟨rfl,rfl,rfl,rfl,rfl,rfl,rfl,trivial⟩,h⟩
 refine jB h λZM w h=>?_
 refine nP (Pb _ _ _ _ h.to nf_nd (by have:=ft_nd.1.2.1;omega)) λBj w h=>?_
 exact⟨ZM,Bj,⟨rfl,rfl,rfl,rfl,rfl,rfl,rfl,trivial⟩,h.to⟩
 rintro e w ⟨Uf,wI,hE,h⟩
 refine C.sub hE ?_
 clear hE e
 refine go h λw h=>?_
 refine lA (mY S c nK _ _ _ _ oP vC _ _ _ _ _ _ _ _ _ _ _ _ h.to (hs.less (by decide)) (Ct.vH (ft_nd.mono (by first|omega|(simp only[dC];omega))) c.key c.value)) λs14 t15 c16 QE w h=>?_
 refine rc h ?_
 exact jW (qF cJ (QE)) h.to
theorem CD(S:fX)(c:Ct.Call)(nK:c.key.size<=64)(K N kf n:Nat)(oP:∀j,j<=n->kW S c K N j)(vC:∀j,j<=n->pC S c K N kf j)(wb:Nat)(gn pa i lv:Int)(m1:Int)(nd:Ct.Node)(qnd:Lq)(ix:Int)(s:Ct.St)(h:SH B w (bl wb (Ac S c gn pa i lv) 158::aL nd qnd::S.a s::L))(hs:Ct.Rm 40 s)(ft_nd:Ct.Node.Fit s.aG.length nd):
  Calls prog 239 #[↑wb,↑m1,.agg (aK nd qnd).toArray,↑ix] w λe w'=>CP S jG n B (Ct.mL c (Ct.aY c K N) (Ct.aE c.key c.aI) i m1 nd ix) s L e w':=by
 have yA:=Ct.eS c.key c.aI
 have sz_nd:=lC hs
 have nf_nd:=ft_nd.nf (by omega)
 refine cN func239 ntmps239 h λw h=>?_
 refine jX h λb1 w h=>?_
 refine jA h λb2 w h=>?_
 refine bQ (sP S c _ _ _ _ _ _ _ h.to) λw h=>?_
 refine qc h (λcJ w h=>?_) λcJ w h=>?_
 refine lA (qU S false 0 n s h.to (hs.less (by decide))) λs5 t6 c7 hq8 w h=>?_
 refine rc h ?_
 exact jW (qT cJ (hq8)) h.to
 have wE:=(hU _).mp cJ
 refine go h λw h=>?_
 refine fD [1,3,5,7,9,11,13,15,17,19,21,23,25,27,29,31,33,37,39,34,40,42] (by kernel_rfl) h (.c r0 .n) λw h=>go h λw h=>?_
 refine qB (uC _ _ _ h.to) λw h=>?_
 refine cs (ci (S.sA h a4) rfl rfl) ((dY S s ({kind:=4,hash:=Ct.aE c.key c.aI,key:=c.key,value:=c.value}:Ct.Node) {} 0 (SH.fI ({kind:=4,hash:=Ct.aE c.key c.aI,key:=c.key,value:=c.value}:Ct.Node) rfl rfl h.to) hs (Ct.kE _ 4 (Ct.aE c.key c.aI) c.key c.value (by decide) yA nK)).mono ?_)
 rintro _ w ⟨rfl,h⟩
 have hs:=hs.alloc (Ct.kE _ 4 (Ct.aE c.key c.aI) c.key c.value (by decide) yA nK) 0
 refine⟨_,rfl,h.hs (.c r1 .n),?_⟩
 refine go h λw h=>?_
 refine cS (Vg _ _ _ _ h.to nf_nd) λwI w h=>?_
 refine jA h λUf w h=>?_
 refine lA (mY S c nK _ _ _ _ oP vC _ _ _ _ _ _ _ _ _ _ _ _ h.to (hs.less (by decide)) (Ct.eO (ft_nd.mono (by first|omega|(simp only[dC];omega))) ix (s.alloc ({kind:=4,hash:=Ct.aE c.key c.aI,key:=c.key,value:=c.value}:Ct.Node) 0).2)) λs12 t13 c14 aFh w h=>?_
 refine rc h ?_
 exact jW (qF cJ (qA (aFh))) h.to
theorem Vl(S:fX)(c:Ct.Call)(nK:c.key.size<=64)(K N kf n:Nat)(oP:∀j,j<=n->kW S c K N j)(vC:∀j,j<=n->pC S c K N kf j)(wb:Nat)(gn pa i lv:Int)(m1:Int)(nd:Ct.Node)(qnd:Lq)(ix:Int)(bb:Int)(xd:Ct.Node)(qxd:Lq)(s:Ct.St)(h:SH B w (bl wb (Ac S c gn pa i lv) 158::aL nd qnd::aL xd qxd::S.a s::L))(hs:Ct.Rm 60 s)(hl:0<=lv/\lv+1+kf<=4000000000000000000)(hb1:1<=bb)(ft_nd:Ct.Node.Fit s.aG.length nd):
  Calls prog 240 #[↑wb,↑m1,.agg (aK nd qnd).toArray,↑ix,↑bb,.agg (aK xd qxd).toArray] w λe w'=>CP S jG n B (Ct.gJ c (Ct.aY c K N) (Ct.aE c.key c.aI) i m1 nd ix bb xd lv gn) s L e w':=by
 have yA:=Ct.eS c.key c.aI
 have sz_nd:=lC hs
 have nf_nd:=ft_nd.nf (by omega)
 refine cN func240 ntmps240 h λw h=>?_
 refine jX h λb1 w h=>?_
 refine jX h λb2 w h=>?_
 refine jA h λb3 w h=>?_
 refine fD [1,3,5,7,9,11,13] (by kernel_rfl) h (.c r1 (.c r2 .n)) λw h=>go h λw h=>?_
 refine qc h (λeB w h=>?_) λeB w h=>?_
 refine bQ (sP S c _ _ _ _ _ _ _ h.to) λw h=>?_
 refine qc h (λdM w h=>?_) λdM w h=>?_
 refine lA (qU S true xd.value n s h.to (hs.less (by decide))) λs7 t8 c9 Ju w h=>?_
 refine rc h ?_
 exact jW (qT eB (qT dM (Ju))) h.to
 refine go h λw h=>?_
 refine fD [1,3,5,7,9,11,13,15,17,19,21,23,25,27,29,31,33,37,39,34,40,42] (by kernel_rfl) h (.c r0 .n) λw h=>go h λw h=>?_
 refine qB (uC _ _ _ h.to) λw h=>?_
 refine cs (ci (S.sA h a6) rfl rfl) ((dY S s ({kind:=4,hash:=Ct.aE c.key c.aI,key:=c.key,value:=c.value}:Ct.Node) {} 0 (SH.fI ({kind:=4,hash:=Ct.aE c.key c.aI,key:=c.key,value:=c.value}:Ct.Node) rfl rfl h.to) hs (Ct.kE _ 4 (Ct.aE c.key c.aI) c.key c.value (by decide) yA nK)).mono ?_)
 rintro _ w ⟨rfl,h⟩
 have hs:=hs.alloc (Ct.kE _ 4 (Ct.aE c.key c.aI) c.key c.value (by decide) yA nK) 0
 refine⟨_,rfl,h.hs (.c r1 .n),?_⟩
 refine ef (sg rfl) (h.hs (.c r1 .n))<|xz<|nx<|?_
 refine sm (λe w=>∃QI:Nat,∃q12:Lq,Sub 137 e (.c 0 ↑wb (.c 1 ↑m1 (.c 11 ↑b2 (.c 12 ↑b3 (.c 14 ↑QI (.c 15 (.bool (Ct.aM nd ix (s.alloc ({kind:=4,hash:=Ct.aE c.key c.aI,key:=c.key,value:=c.value}:Ct.Node) 0).2).2) .n))))))/\SH B w (bl QI (aK (Ct.aM nd ix (s.alloc ({kind:=4,hash:=Ct.aE c.key c.aI,key:=c.key,value:=c.value}:Ct.Node) 0).2).1 q12) 53::aL (Ct.aM nd ix (s.alloc ({kind:=4,hash:=Ct.aE c.key c.aI,key:=c.key,value:=c.value}:Ct.Node) 0).2).1 q12::aL nd qnd::S.a (s.alloc ({kind:=4,hash:=Ct.aE c.key c.aI,key:=c.key,value:=c.value}:Ct.Node) 0).1::bl wb (Ac S c gn pa i lv) 158::bl b3 ([.int .i64 0,.int .i64 0,.int .i64 0,.int .i64 0,.nilFunc,.nilFunc,.int .i64 0,↑false,.int .u64 0,.string .empty,.int .i64 0,.int .i64 0,.int .i64 0,↑false]) 94::bl b2 (aK xd qxd) 53::bl b1 (aK nd qnd) 53::aL xd qxd::L)) ?_ ?_
 refine go h λw h=>?_
 refine cS (iL _ _ _ _ h.to nf_nd) λq12 w h=>?_
 refine jA h λQI w h=>?_
 exact⟨QI,q12,⟨rfl,rfl,rfl,rfl,rfl,rfl,trivial⟩,h⟩
 rintro e w ⟨QI,q12,hE,h⟩
 refine C.sub hE ?_
 clear hE e
 refine go h λw h=>?_
 refine lA (mY S c nK _ _ _ _ oP vC _ _ _ _ _ _ _ _ _ _ _ _ h.to (hs.less (by decide)) (xR ft_nd ix (s.alloc ({kind:=4,hash:=Ct.aE c.key c.aI,key:=c.key,value:=c.value}:Ct.Node) 0).2)) λs14 t15 c16 QE w h=>?_
 refine rc h ?_
 exact jW (qT eB (qF dM (qA (QE)))) h.to
 refine bQ (sP S c _ _ _ _ _ _ _ h.to) λw h=>?_
 refine qc h (λjJ w h=>?_) λjJ w h=>?_
 have iM:=(gZ _).mp jJ
 refine go h λw h=>?_
 refine lA (qU S false 0 n s h.to (hs.less (by decide))) λs20 t21 ZI N5 w h=>?_
 refine rc h ?_
 exact jW (qF eB (qT jJ (N5))) h.to
 have rY:=(hU _).mp jJ
 refine go h λw h=>?_
 refine fD [1,3,5,7,9,11,13,15,17,19,21,23,25,27,29,31,33,35,37,39,41,43,45,47,49,51,53,54,57,59,61,62,64] (by kernel_rfl) h (.c r0 .n) λw h=>go h λw h=>?_
 refine tk (λW H=>ba (lv+1))<|go h λw h=>?_
 refine cs (ca eF rfl) ((XH 35 S bb (Ct.aE c.key c.aI) c.key c.value (lv+1) gn s (h.fr (.c r6 .n)) hs (by omega) yA (by omega)).mono ?_)
 rintro _ w ⟨aAe,YM,aG7,aKe,aY7,hs,rfl,h⟩
 refine⟨_,rfl,h.hs (.c r1 .n),?_⟩
 refine tk (λW H=>mv rfl)<|tk (λW H=>xr rfl rfl)<|tk (λW H=>xr rfl rfl)<|ef (sg rfl) (h.hs (.c r1 .n))<|ef (sg rfl) (h.hs (.c r1 .n))<|xz<|nx<|sq<|sq<|rg<|st (mv rfl)<|st (bi rfl rfl rfl)<|xe<|nx<|?_
 refine go h λw h=>?_
 rcases dQ ((aG7:Int) != 0)with Mt|Mt
 have aP8:=bne_iff_ne.1 Mt
 refine go h λw h=>?_
 refine bQ (oG ({err:=aG7}:Ct.Result) h.to) λw h=>?_
 refine rc h ?_
 have h:=kD (S:=S) (n:=n) (r:=({err:=aG7}:Ct.Result)) h
 exact jW (qF eB (qF jJ ((aKe _).trans (qT Mt rfl)))) h.to
 have aQz:=eT Mt
 refine cf rfl Mt<|sk<|nx<|?_
 refine sm (λe w=>Sub 137 e (.c 0 ↑wb (.c 1 ↑m1 (.c 3 ↑ix (.c 8 ↑b1 (.c 12 ↑b3 (.c 18 (.int .i64 (aAe.alloc ({kind:=2,gen:=gn}:Ct.Node) YM).2) .n))))))/\SH B w (S.a (aAe.alloc ({kind:=2,gen:=gn}:Ct.Node) YM).1::bl wb (Ac S c gn pa i lv) 158::bl b3 ([.int .i64 0,.int .i64 0,.int .i64 0,.int .i64 0,.nilFunc,.nilFunc,.int .i64 0,↑false,.int .u64 0,.string .empty,.int .i64 0,.int .i64 0,.int .i64 0,↑false]) 94::bl b2 (aK xd qxd) 53::bl b1 (aK nd qnd) 53::aL nd qnd::aL xd qxd::L)) ?_ ?_
 refine fD [1,3,5,7,9,11,13,15,17,21,23,25,18,26,28] (by kernel_rfl) h (.c r1 .n) λw h=>go h λw h=>?_
 refine qB (tJ _ h.to) λw h=>?_
 refine cs (ci (S.sA h a0) rfl rfl) ((dY S aAe ({kind:=2,gen:=gn}:Ct.Node) {} YM (SH.fI ({kind:=2,gen:=gn}:Ct.Node) rfl rfl h.to) hs (Ct.bP _ 2 gn 0 0 0)).mono ?_)
 rintro _ w ⟨rfl,h⟩
 have hs:=hs.alloc (Ct.bP _ 2 gn 0 0 0) YM
 refine⟨_,rfl,h.hs (.c r1 .n),?_⟩
 refine go h λw h=>?_
 exact⟨⟨rfl,rfl,rfl,rfl,rfl,rfl,trivial⟩,h⟩
 rintro e w ⟨hE,h⟩
 refine C.sub hE ?_
 clear hE e
 have hs:=hs.alloc (Ct.bP _ 2 gn 0 0 0) YM
 refine go h λw h=>?_
 refine cS (iL _ _ _ _ h.to nf_nd) λq33 w h=>?_
 refine jA h λb34 w h=>?_
 refine lA (mY S c nK _ _ _ _ oP vC _ _ _ _ _ _ _ _ _ _ _ _ h.to (hs.less (by decide)) (xR ft_nd ix (aAe.alloc ({kind:=2,gen:=gn}:Ct.Node) YM).2)) λs35 t36 c37 aRr w h=>?_
 refine rc h ?_
 exact jW (qF eB (qF jJ ((aKe _).trans (qF Mt (qA (aRr)))))) h.to
theorem Tn(S:fX)(c:Ct.Call)(nK:c.key.size<=64)(K N kf n:Nat)(oP:∀j,j<=n->kW S c K N j)(vC:∀j,j<=n->pC S c K N kf j)(wb:Nat)(gn pa i lv:Int){m:Nat}(hm:m<=n)(ok:Bool)(s:Ct.St)(h:SH B w (bl wb (Ac S c gn pa i lv) 158::S.a s::L))(hs:Ct.Rm 40 s):
  Calls prog 205 #[↑wb,↑ok] w λe w'=>CP S jG m B ((λ_=>(Ct.aY c K N)) ok) s L e w':=by
 have yA:=Ct.eS c.key c.aI
 refine cN func205 ntmps205 h λw h=>?_
 refine jA h λb1 w h=>?_
 refine lA (oP m hm wb gn pa i lv _ _ _ s h.to (hs.less (by decide))) λs2 t3 c4 Vo w h=>?_
 refine rr (cD rfl rfl (h.b a2) Row.h) ?_
 exact jW (Vo) h.to
theorem Jd(S:fX)(c:Ct.Call)(nK:c.key.size<=64)(K N kf n:Nat)(oP:∀j,j<=n->kW S c K N j)(vC:∀j,j<=n->pC S c K N kf j)(wb:Nat)(gn pa i lv:Int){m:Nat}(hm:m<=n)(m1:Int)(s:Ct.St)(h:SH B w (bl wb (Ac S c gn pa i lv) 158::S.a s::L))(hs:Ct.Rm 40 s)(hl:0<=lv/\lv+1+kf<=4000000000000000000):
  Calls prog 242 #[↑wb,↑m1] w λe w'=>CP S jG m B ((λb_b=>bif b_b==0 then(Ct.aY c K N)else Ct.eE c (Ct.aE c.key c.aI) gn (Ct.aY c K N) kf i b_b (lv+1)) m1) s L e w':=by
 have yA:=Ct.eS c.key c.aI
 refine cN func242 ntmps242 h λw h=>?_
 refine jA h λb1 w h=>?_
 refine qc h (λcO w h=>?_) λcO w h=>?_
 have Lt:=eq_of_beq cO
 refine go h λw h=>?_
 refine lA (oP m hm wb gn pa i lv _ _ _ s h.to (hs.less (by decide))) λs4 t5 c6 PZ w h=>?_
 refine rr (cD rfl rfl (h.b a2) Row.h) ?_
 exact jW (qT cO (PZ)) h.to
 have Ua:=bM cO
 refine go h λw h=>?_
 refine lA (vC m hm wb gn pa i lv m1 _ _ _ s h.to (hs.less (by decide)) (by omega)) λs9 t10 c11 Ty w h=>?_
 refine rr (cD rfl rfl (h.b a2) Row.h) ?_
 exact jW (qF cO (Ty)) h.to
theorem Se(S:fX)(c:Ct.Call)(nK:c.key.size<=64)(K N kf n:Nat)(oP:∀j,j<=n->kW S c K N j)(vC:∀j,j<=n->pC S c K N kf j)(wb:Nat)(gn pa i lv:Int)(m1:Int)(nd:Ct.Node)(qnd:Lq)(s:Ct.St)(h:SH B w (bl wb (Ac S c gn pa i lv) 158::aL nd qnd::S.a s::L))(hs:Ct.Rm 60 s)(hl:0<=lv/\lv+1+kf<=4000000000000000000)(ft_nd:Ct.Node.Fit s.aG.length nd):
  Calls prog 207 #[↑wb,↑m1,.agg (aK nd qnd).toArray] w λe w'=>CP S jG n B (bif !(Ct.aB nd (Ct.slice (Ct.aE c.key c.aI) lv)).2 then Ct.mL c (Ct.aY c K N) (Ct.aE c.key c.aI) i m1 nd (Ct.slice (Ct.aE c.key c.aI) lv)else .node (Ct.aB nd (Ct.slice (Ct.aE c.key c.aI) lv)).1 λx=>bif x.kind==4 then Ct.gJ c (Ct.aY c K N) (Ct.aE c.key c.aI) i m1 nd (Ct.slice (Ct.aE c.key c.aI) lv) (Ct.aB nd (Ct.slice (Ct.aE c.key c.aI) lv)).1 x lv gn else bif x.gen != gn then Ct.oE c.aF i m1 (Ct.slice (Ct.aE c.key c.aI) lv) (λb=>bif b==0 then(Ct.aY c K N)else Ct.eE c (Ct.aE c.key c.aI) gn (Ct.aY c K N) kf i b (lv+1))else Ct.eE c (Ct.aE c.key c.aI) gn (Ct.aY c K N) kf i (Ct.aB nd (Ct.slice (Ct.aE c.key c.aI) lv)).1 (lv+1)) s L e w':=by
 have yA:=Ct.eS c.key c.aI
 have sz_nd:=lC hs
 have nf_nd:=ft_nd.nf (by omega)
 refine cN func207 ntmps207 h λw h=>?_
 refine jX h λb1 w h=>?_
 refine sf (al h GV)<|?_
 rintro _ w ⟨b2,rfl,h⟩
 refine xe<|nx<|?_
 refine sm (λe w=>Sub 73 e (.c 0 ↑wb (.c 1 ↑m1 (.c 5 ↑b1 (.c 6 ↑b2 (.c 7 (.int .i64 (Ct.slice (Ct.aE c.key c.aI) lv)) .n)))))/\SH B w (bl b2 ([.int .i64 0,.int .i64 0,.int .i64 0,.int .i64 0,.nilFunc,.nilFunc,.int .i64 0,↑false,.int .u64 0,.string .empty,.int .i64 0,.int .i64 0,.int .i64 0,↑false]) 94::bl b1 (aK nd qnd) 53::bl wb (Ac S c gn pa i lv) 158::aL nd qnd::S.a s::L)) ?_ ?_
 refine fD [1,3,5,7,9,11,13,15,16,18] (by kernel_rfl) h (.c r2 .n) λw h=>go h λw h=>?_
 refine cs (ca eF rfl) ((sU (Ct.aE c.key c.aI) lv _ (by omega)).mono ?_)
 rintro _ _ ⟨rfl,rfl⟩
 refine⟨_,rfl,h.hs (.c r2 .n),?_⟩
 refine ef (sg rfl) (h.hs (.c r2 .n))<|xz<|nx<|?_
 refine go h λw h=>?_
 exact⟨⟨rfl,rfl,rfl,rfl,rfl,trivial⟩,h⟩
 rintro e w ⟨hE,h⟩
 refine C.sub hE ?_
 clear hE e
 refine sm (λe w=>Sub 73 e (.c 0 ↑wb (.c 1 ↑m1 (.c 5 ↑b1 (.c 6 ↑b2 (.c 7 (.int .i64 (Ct.slice (Ct.aE c.key c.aI) lv)) (.c 8 (.int .i64 (Ct.aB nd (Ct.slice (Ct.aE c.key c.aI) lv)).1) (.c 9 (.bool (Ct.aB nd (Ct.slice (Ct.aE c.key c.aI) lv)).2) .n)))))))/\SH B w (aL nd qnd::bl b2 ([.int .i64 0,.int .i64 0,.int .i64 0,.int .i64 0,.nilFunc,.nilFunc,.int .i64 0,↑false,.int .u64 0,.string .empty,.int .i64 0,.int .i64 0,.int .i64 0,↑false]) 94::bl b1 (aK nd qnd) 53::bl wb (Ac S c gn pa i lv) 158::S.a s::L)) ?_ ?_
 refine go h λw h=>?_
 refine bQ (zQ _ _ _ _ _ _ h.to nf_nd) λw h=>?_
 exact⟨⟨rfl,rfl,rfl,rfl,rfl,rfl,rfl,trivial⟩,h⟩
 rintro e w ⟨hE,h⟩
 refine C.sub hE ?_
 clear hE e
 refine go h λw h=>?_
 refine qc h (λcJ w h=>?_) λcJ w h=>?_
 have eB:=(gZ _).mp cJ
 refine go h λw h=>?_
 refine lA (CD S c nK _ _ _ _ oP vC _ _ _ _ _ _ _ _ _ _ h.to (hs.less (by decide)) (ft_nd.mono (by first|omega|(simp only[dC];omega)))) λs5 t6 c7 hq8 w h=>?_
 refine rc h ?_
 exact jW (qT cJ (hq8)) h.to
 have wE:=(hU _).mp cJ
 refine go h λw h=>?_
 refine cl (ci (S.sN h a4) rfl rfl) ((dK S s (Ct.aB nd (Ct.slice (Ct.aE c.key c.aI) lv)).1 h.to hs).mono ?_)
 rintro _ w ⟨wI,rfl,h⟩
 have ft_q10:=hs.node (Ct.aB nd (Ct.slice (Ct.aE c.key c.aI) lv)).1
 have sz_q10:=lC hs
 have nf_q10:=ft_q10.nf (by omega)
 refine⟨_,rfl,?_⟩
 refine jA h λUf w h=>?_
 refine qc h (λfO w h=>?_) λfO w h=>?_
 have N2:=eq_of_beq fO
 refine go h λw h=>?_
 refine lA (Vl S c nK _ _ _ _ oP vC _ _ _ _ _ _ _ _ _ _ _ _ _ h.to (hs.less (by decide)) (by omega) (XV fO) (ft_nd.mono (by first|omega|(simp only[dC];omega)))) λs14 t15 c16 QE w h=>?_
 refine rc h ?_
 exact jW (qF cJ (qN (qT fO (QE)))) h.to
 have N0:=bM fO
 refine go h λw h=>?_
 refine fD [1,3,5,7,9,11,13] (by kernel_rfl) h (.c r0 (.c r5 .n)) λw h=>go h λw h=>?_
 refine qc h (λiM w h=>?_) λiM w h=>?_
 have YK:=bne_iff_ne.1 iM
 refine go h λw h=>?_
 refine DD (F:=[bl wb (Ac S c gn pa i lv) 158]) [(true,[1,3,5,7,9,11,13,15,17,19,21,23]),(false,[24,26])] (by kernel_rfl) h (λw h=>(hC (h.at_ a6) hN)) λw h=>go h λw h=>?_
 refine tk (λW H=>kB (cs:=[S.v,↑c.aF.root,↑c.aF.readOnly]) rfl (hX (H.b a0) 0 rfl) Row.h)<|go h λw h=>?_
 have h:=h.fr (.c r6 .n)
 have h:=mkl (S:=S) (F:=jG) (n:=n) (j:=40) (args:=eM) (k:=(λb_b=>bif b_b==0 then(Ct.aY c K N)else Ct.eE c (Ct.aE c.key c.aI) gn (Ct.aY c K N) kf i b_b (lv+1))) (v:=(.fn 242 [↑wb] [])) [bl wb (Ac S c gn pa i lv) 158] h λB' w' L' s' x' h' mD=>Bt eF (Jd S c nK K N kf n oP vC wb gn pa i lv (aW _) x' s' h' (mD.less (by decide)) (by omega))
 refine OI (DW S jG _ _ _ _ (.fn 242 [↑wb] []) (λb_b=>bif b_b==0 then(Ct.aY c K N)else Ct.eE c (Ct.aE c.key c.aI) gn (Ct.aY c K N) kf i b_b (lv+1)) _ _ h.to (hs.less (by decide))) λs21 t22 c23 aQf w h=>?_
 refine rc h ?_
 exact jW (qF cJ (qN (qF fO (qT iM (aQf))))) h.to
 have YV:=eT iM
 refine go h λw h=>?_
 refine lA (vC n (aW _) wb gn pa i lv (Ct.aB nd (Ct.slice (Ct.aE c.key c.aI) lv)).1 _ _ _ s h.to (hs.less (by decide)) (by omega)) λs26 t27 c28 aOw w h=>?_
 refine rc h ?_
 exact jW (qF cJ (qN (qF fO (qF iM (aOw))))) h.to
theorem zT(S:fX)(c:Ct.Call)(nK:c.key.size<=64)(K N kf n:Nat)(oP:∀j,j<=n->kW S c K N j)(vC:∀j,j<=n->pC S c K N kf j)(wb:Nat)(gn pa i lv:Int){m:Nat}(hm:m<=n)(m1:Int)(s:Ct.St)(h:SH B w (bl wb (Ac S c gn pa i lv) 158::S.a s::L))(hs:Ct.Rm 60 s)(hl:0<=lv/\lv+1+kf<=4000000000000000000):
  Calls prog 176 #[↑wb,↑m1] w λe w'=>CP S jG m B ((λm_b=>.node m_b λn_b=>bif n_b.kind==5 then Ct.mP c.aF pa i (Ct.aE c.key c.aI) (lv-1) (λ_=>(Ct.aY c K N))else bif n_b.kind==6 then Ct.lF c (Ct.aY c K N) i m_b n_b else bif n_b.kind==3 then(bif !(Ct.aB n_b (Ct.slice (Ct.aE c.key c.aI) lv)).2 then Ct.mL c (Ct.aY c K N) (Ct.aE c.key c.aI) i m_b n_b (Ct.slice (Ct.aE c.key c.aI) lv)else .node (Ct.aB n_b (Ct.slice (Ct.aE c.key c.aI) lv)).1 λx_b=>bif x_b.kind==4 then Ct.gJ c (Ct.aY c K N) (Ct.aE c.key c.aI) i m_b n_b (Ct.slice (Ct.aE c.key c.aI) lv) (Ct.aB n_b (Ct.slice (Ct.aE c.key c.aI) lv)).1 x_b lv gn else bif x_b.gen != gn then Ct.oE c.aF i m_b (Ct.slice (Ct.aE c.key c.aI) lv) (λb_b=>bif b_b==0 then(Ct.aY c K N)else Ct.eE c (Ct.aE c.key c.aI) gn (Ct.aY c K N) kf i b_b (lv+1))else Ct.eE c (Ct.aE c.key c.aI) gn (Ct.aY c K N) kf i (Ct.aB n_b (Ct.slice (Ct.aE c.key c.aI) lv)).1 (lv+1))else .ret {}) m1) s L e w':=by
 have yA:=Ct.eS c.key c.aI
 refine cN func176 ntmps176 h λw h=>?_
 refine jA h λb1 w h=>?_
 refine cl (ci (S.sN h a2) rfl rfl) ((dK S s m1 h.to hs).mono ?_)
 rintro _ w ⟨q2,rfl,h⟩
 have ft_q2:=hs.node m1
 refine⟨_,rfl,?_⟩
 refine jA h λb3 w h=>?_
 refine qc h (λeB w h=>?_) λeB w h=>?_
 ·refine DD (F:=[bl wb (Ac S c gn pa i lv) 158]) [(true,[1,3,5,7,9,11,13,15,17,19,21,23,25,27,29,31,33,35,37,39,41,43,45]),(false,[46,48])] (by kernel_rfl) h (λw h=>(hC (h.at_ a4) hN)) λw h=>go h λw h=>?_
  refine tk (λW H=>kB (cs:=[S.v,↑c.aF.root,↑c.aF.readOnly]) rfl (hX (H.b a0) 0 rfl) Row.h)<|go h λw h=>?_
  refine tk (λW H=>bs (lv-1))<|go h λw h=>?_
  have h:=h.fr (.c r4 .n)
  have h:=SA (j:=50) (S:=S) (F:=jG) (n:=m) (args:=iC) (k:=(λ_=>(Ct.aY c K N))) (v:=(.fn 205 [↑wb] [])) [bl wb (Ac S c gn pa i lv) 158] h λm' nN B' w' L' s' x' h' mD=>Bt eF (Tn S c nK K N kf m (λj hj=>oP j (kR hj hm)) (λj hj=>vC j (kR hj hm)) wb gn pa i lv (wO nN) x' s' h' (mD.less (by decide)))
  refine OI (EN S jG _ _ _ _ _ (.fn 205 [↑wb] []) (λ_=>(Ct.aY c K N)) _ _ h.to (hs.less (by decide)) yA) λs6 t7 c8 hq9 w h=>?_
  refine rc h ?_
  exact jW (qN (qT eB (hq9))) h.to
 ·refine qc h (λiT w h=>?_) λiT w h=>?_
  ·refine lA (IF S c nK _ _ _ _ (λj hj=>oP j (kR hj hm)) (λj hj=>vC j (kR hj hm)) _ _ _ _ _ _ _ _ _ h.to (hs.less (by decide)) (by have:=eq_of_beq iT;omega) (ft_q2.mono (by first|omega|(simp only[dC];omega)))) λs13 t14 c15 aFw w h=>?_
   refine rc h ?_
   exact jW (qN (qF eB (qT iT (aFw)))) h.to
  ·refine qc h (λjJ w h=>?_) λjJ w h=>?_
   ·refine lA (Se S c nK _ _ _ _ (λj hj=>oP j (kR hj hm)) (λj hj=>vC j (kR hj hm)) _ _ _ _ _ _ _ _ _ h.to (hs.less (by decide)) (by omega) (ft_q2.mono (by first|omega|(simp only[dC];omega)))) λs20 t21 ZI N5 w h=>?_
    refine rc h ?_
    exact jW (qN (qF eB (qF iT (qT jJ (N5))))) h.to
   ·refine bQ (oG ({}:Ct.Result) h.to) λw h=>?_
    refine rc h ?_
    have h:=kD (S:=S) (n:=m) (r:=({}:Ct.Result)) h
    exact jW (qN (qF eB (qF iT (qF jJ rfl)))) h.to
section
attribute [local semireducible] gA wpS Go.E.X XS C kV lL fin Y U F Ca kU bl rb aV bS ex ce pu sK gK bK zK gG fE cZ gY mA rQ
attribute [local irreducible] gA wpS
variable{B w:World}{L:List As}
theorem Ma(S:fX)(c:Ct.Call)(nK:c.key.size<=64)(K N kf n:Nat)(oP:∀j,j<n->kW S c K N j)(vC:∀j,j<n->pC S c K N kf j)(wb:Nat)(gn pa i lv:Int)(b:Int)(s:Ct.St)(h:SH B w (bl wb (Ac S c gn pa i lv) 158::S.a s::L))(hs:Ct.Rm 30 s)(hl:0<=lv/\lv+1+((kf+1:Nat):Int)<=4000000000000000000):
  Calls prog 243 #[↑wb,↑b] w λe w'=>CP S jG n B (Ct.eE c (Ct.aE c.key c.aI) gn (Ct.aY c K N) (kf+1) i b (lv+1)) s L e w':=by
 refine Kk (args:=[_,_]) func243 rfl ntmps243 rfl ?_
 refine sq<|rg<|sf (al h GV)<|?_
 rintro _ w ⟨b1,rfl,h⟩
 refine xe<|nx<|sq<|DD (F:=[ce wb 10 (.int .i64 i),ce wb 11 (.int .i64 lv)]) [(true,[1,3]),(false,[5]),(true,[7,9,11,13,15,17,19,21,23]),(false,[25]),(true,[27,29,30,33,35]),(false,[36,39,41,42])] (by kernel_rfl) h (λw h=>(hC (h.tX a1 rfl) (hC (h.tX a1 rfl) hN))) λw h=>sgT<|tk (λW H=>mv rfl)<|tk (λW H=>mv rfl)<|KR<|tk (λW H=>mv rfl)<|xgT<|tk (λW H=>mv rfl)<|tk (λW H=>nc rfl rfl)<|tk (λW H=>fa Sx rfl)<|tk (λW H=>ld jE rfl (H.ce a0))<|tk (λW H=>mv rfl)<|tk (λW H=>mv rfl)<|tk (λW H=>nc rfl rfl)<|tk (λW H=>fa EF rfl)<|tk (λW H=>ld jZ rfl (H.ce a1))<|KR<|tk (λW H=>bw rfl rfl (iR (c:=lv+1) (by omega) (by omega) (by omega)))<|xgT<|tk (λW H=>nc rfl rfl)<|tk (λW H=>fa G0 rfl)<|ff (so h rfl rfl rfl uM rfl (.s (.s (.s (.s (.s (.s (.s (.s (.s (.r .d)))))))))) u1)<|?_
 rintro _ w h
 refine⟨(hC (h.tX a1 rfl) (hC (h.tX a1 rfl) hN)),?_⟩
 refine tk (λW H=>nc rfl rfl)<|tk (λW H=>fa Sx rfl)<|KR<|ff (so h rfl rfl rfl uM rfl (.s (.s (.s (.s (.s (.s (.s (.s (.s (.s (.r .d))))))))))) u1)<|?_
 rintro _ w h
 refine⟨trivial,?_⟩
 refine tk (λW H=>nc rfl rfl)<|tk (λW H=>fa EF rfl)<|ff (so h rfl rfl rfl Gu rfl (.s (.s (.s (.s (.s (.s (.s (.s (.s (.s (.s (.r .d)))))))))))) u1)<|?_
 rintro _ w h
 refine⟨trivial,?_⟩
 refine xz<|nx<|sq<|DD (F:=[bl wb ([S.v,↑c.aF.root,↑c.aF.readOnly,↑c.key,.int .u64 ((Ct.aE c.key c.aI:Nat):Int),.int .u64 (c.value:Int),↑c.bF,.int .u64 (c.expect:Int),↑gn,↑i,↑b,.int .i64 (lv+1)]) 158]) [(true,[1,3,5,7,9,11,13,15,17,19]),(false,[20,22])] (by kernel_rfl) h (λw h=>(hC (h.at_ a1) hN)) λw h=>sgT<|tk (λW H=>mv rfl)<|tk (λW H=>nc rfl rfl)<|tk (λW H=>fa i4 rfl)<|tk (λW H=>kB (cs:=[S.v,↑c.aF.root,↑c.aF.readOnly]) rfl (hX (H.b a0) 0 rfl) aEo)<|tk (λW H=>mv rfl)<|tk (λW H=>nc rfl rfl)<|tk (λW H=>fa Sx rfl)<|tk (λW H=>ld jE rfl (H.c a0 rfl))<|tk (λW H=>mv rfl)<|tk (λW H=>mf rfl rfl)<|KR<|?_
 have h:=h.fr (.c r1 .n)
 have h:=SA (j:=60) (S:=S) (F:=jG) (n:=n) (args:=eM) (k:=(λm_b=>.node m_b λn_b=>bif n_b.kind==5 then Ct.mP c.aF i b (Ct.aE c.key c.aI) ((lv+1)-1) (λ_=>(Ct.aY c K N))else bif n_b.kind==6 then Ct.lF c (Ct.aY c K N) b m_b n_b else bif n_b.kind==3 then(bif !(Ct.aB n_b (Ct.slice (Ct.aE c.key c.aI) (lv+1))).2 then Ct.mL c (Ct.aY c K N) (Ct.aE c.key c.aI) b m_b n_b (Ct.slice (Ct.aE c.key c.aI) (lv+1))else .node (Ct.aB n_b (Ct.slice (Ct.aE c.key c.aI) (lv+1))).1 λx_b=>bif x_b.kind==4 then Ct.gJ c (Ct.aY c K N) (Ct.aE c.key c.aI) b m_b n_b (Ct.slice (Ct.aE c.key c.aI) (lv+1)) (Ct.aB n_b (Ct.slice (Ct.aE c.key c.aI) (lv+1))).1 x_b (lv+1) gn else bif x_b.gen != gn then Ct.oE c.aF b m_b (Ct.slice (Ct.aE c.key c.aI) (lv+1)) (λb_b=>bif b_b==0 then(Ct.aY c K N)else Ct.eE c (Ct.aE c.key c.aI) gn (Ct.aY c K N) kf b b_b ((lv+1)+1))else Ct.eE c (Ct.aE c.key c.aI) gn (Ct.aY c K N) kf b (Ct.aB n_b (Ct.slice (Ct.aE c.key c.aI) (lv+1))).1 ((lv+1)+1))else .ret {})) (v:=(.fn 176 [↑wb] [])) [bl wb (Ac S c gn i b (lv+1)) 158] h λm' nN B' w' L' s' x' h' mD=>Bt eF (zT S c nK K N kf m' (λj hj=>oP j (Sc hj nN)) (λj hj=>vC j (Sc hj nN)) wb gn i b (lv+1) (aW _) x' s' h' (mD.less (by decide)) (by omega))
 refine cs (ca eF rfl) ((pY S jG c.aF b (.fn 176 [↑wb] []) (λm_b=>.node m_b λn_b=>bif n_b.kind==5 then Ct.mP c.aF i b (Ct.aE c.key c.aI) ((lv+1)-1) (λ_=>(Ct.aY c K N))else bif n_b.kind==6 then Ct.lF c (Ct.aY c K N) b m_b n_b else bif n_b.kind==3 then(bif !(Ct.aB n_b (Ct.slice (Ct.aE c.key c.aI) (lv+1))).2 then Ct.mL c (Ct.aY c K N) (Ct.aE c.key c.aI) b m_b n_b (Ct.slice (Ct.aE c.key c.aI) (lv+1))else .node (Ct.aB n_b (Ct.slice (Ct.aE c.key c.aI) (lv+1))).1 λx_b=>bif x_b.kind==4 then Ct.gJ c (Ct.aY c K N) (Ct.aE c.key c.aI) b m_b n_b (Ct.slice (Ct.aE c.key c.aI) (lv+1)) (Ct.aB n_b (Ct.slice (Ct.aE c.key c.aI) (lv+1))).1 x_b (lv+1) gn else bif x_b.gen != gn then Ct.oE c.aF b m_b (Ct.slice (Ct.aE c.key c.aI) (lv+1)) (λb_b=>bif b_b==0 then(Ct.aY c K N)else Ct.eE c (Ct.aE c.key c.aI) gn (Ct.aY c K N) kf b b_b ((lv+1)+1))else Ct.eE c (Ct.aE c.key c.aI) gn (Ct.aY c K N) kf b (Ct.aB n_b (Ct.slice (Ct.aE c.key c.aI) (lv+1))).1 ((lv+1)+1))else .ret {}) n s (h.fr (.c r0 (.c r1 .n))) (hs.less (by decide))).mono ?_)
 rintro _ w ⟨s2,t3,c4,Vo,rfl,h⟩
 refine⟨_,rfl,trivial,?_⟩
 refine ff (so h rfl rfl rfl uI (kF _) (.r (.r (.r (.r (.r (.r (.r (.r (.r (.r (.r (.r (.r (.r .d)))))))))))))) u2)<|?_
 rintro _ w h
 refine⟨trivial,?_⟩
 refine xz<|nx<|rt<|?_
 refine rr (cD results243 rfl (h.b a2) aEm)<|?_
 exact jW (Vo) (h.fr (.c r2 .n)).drop
end
variable{B w:World}{L:List As}
theorem Py(S:fX)(c:Ct.Call)(nK:c.key.size<=64)(N kf n:Nat)(oP:∀j,j<=n->kW S c (kf+1) N j)(vC:∀j,j<=n->pC S c (kf+1) N kf j)(wb:Nat)(gn pa i lv:Int){m:Nat}(hm:m<=n)(m1:Int)(s:Ct.St)(h:SH B w (bl wb (Ac S c gn pa i lv) 158::S.a s::L))(hs:Ct.Rm 60 s)(hl:(kf:Int)+1<=4000000000000000000):
  Calls prog 142 #[↑wb,↑m1] w λe w'=>CP S jG m B ((λr_b=>.node r_b λa_b=>Ct.eE c (Ct.aE c.key c.aI) a_b.gen (Ct.aY c (kf+1) N) (kf+1) 0 r_b 0) m1) s L e w':=by
 have yA:=Ct.eS c.key c.aI
 refine cN func142 ntmps142 h λw h=>?_
 refine jA h λb1 w h=>?_
 refine cl (ci (S.sN h a2) rfl rfl) ((dK S s m1 h.to hs).mono ?_)
 rintro _ w ⟨q2,rfl,h⟩
 have ft_q2:=hs.node m1
 have sz_q2:=lC hs
 have nf_q2:=ft_q2.nf (by omega)
 refine⟨_,rfl,?_⟩
 refine go h λw h=>?_
 refine DD (F:=[bl wb ([S.v,↑c.aF.root,↑c.aF.readOnly,↑c.key,.int .u64 ((Ct.aE c.key c.aI:Nat):Int),.int .u64 (c.value:Int),↑c.bF,.int .u64 (c.expect:Int),.int .i64 (s.node m1).gen,.int .i64 0,↑m1,.int .i64 0]) 158]) [(true,[1,3,5,7,9,11,13,15,17,19]),(false,[20,22])] (by kernel_rfl) h (λw h=>(hC (h.at_ a3) hN)) λw h=>go h λw h=>?_
 refine tk (λW H=>kB (cs:=[S.v,↑c.aF.root,↑c.aF.readOnly]) rfl (hX (H.b a0) 0 rfl) Row.h)<|go h λw h=>?_
 have h:=h.fr (.c r3 .n)
 have h:=SA (j:=60) (S:=S) (F:=jG) (n:=m) (args:=eM) (k:=(λm_b=>.node m_b λn_b=>bif n_b.kind==5 then Ct.mP c.aF 0 m1 (Ct.aE c.key c.aI) (0-1) (λ_=>(Ct.aY c (kf+1) N))else bif n_b.kind==6 then Ct.lF c (Ct.aY c (kf+1) N) m1 m_b n_b else bif n_b.kind==3 then(bif !(Ct.aB n_b (Ct.slice (Ct.aE c.key c.aI) 0)).2 then Ct.mL c (Ct.aY c (kf+1) N) (Ct.aE c.key c.aI) m1 m_b n_b (Ct.slice (Ct.aE c.key c.aI) 0)else .node (Ct.aB n_b (Ct.slice (Ct.aE c.key c.aI) 0)).1 λx_b=>bif x_b.kind==4 then Ct.gJ c (Ct.aY c (kf+1) N) (Ct.aE c.key c.aI) m1 m_b n_b (Ct.slice (Ct.aE c.key c.aI) 0) (Ct.aB n_b (Ct.slice (Ct.aE c.key c.aI) 0)).1 x_b 0 (s.node m1).gen else bif x_b.gen != (s.node m1).gen then Ct.oE c.aF m1 m_b (Ct.slice (Ct.aE c.key c.aI) 0) (λb_b=>bif b_b==0 then(Ct.aY c (kf+1) N)else Ct.eE c (Ct.aE c.key c.aI) (s.node m1).gen (Ct.aY c (kf+1) N) kf m1 b_b (0+1))else Ct.eE c (Ct.aE c.key c.aI) (s.node m1).gen (Ct.aY c (kf+1) N) kf m1 (Ct.aB n_b (Ct.slice (Ct.aE c.key c.aI) 0)).1 (0+1))else .ret {})) (v:=(.fn 176 [↑wb] [])) [bl wb (Ac S c (s.node m1).gen 0 m1 0) 158] h λm' nN B' w' L' s' x' h' mD=>Bt eF (zT S c nK (kf+1) N kf m (λj hj=>oP j (kR hj hm)) (λj hj=>vC j (kR hj hm)) wb (s.node m1).gen 0 m1 0 (wO nN) x' s' h' (mD.less (by decide)) (by omega))
 refine OI (pY S jG _ _ (.fn 176 [↑wb] []) (λm_b=>.node m_b λn_b=>bif n_b.kind==5 then Ct.mP c.aF 0 m1 (Ct.aE c.key c.aI) (0-1) (λ_=>(Ct.aY c (kf+1) N))else bif n_b.kind==6 then Ct.lF c (Ct.aY c (kf+1) N) m1 m_b n_b else bif n_b.kind==3 then(bif !(Ct.aB n_b (Ct.slice (Ct.aE c.key c.aI) 0)).2 then Ct.mL c (Ct.aY c (kf+1) N) (Ct.aE c.key c.aI) m1 m_b n_b (Ct.slice (Ct.aE c.key c.aI) 0)else .node (Ct.aB n_b (Ct.slice (Ct.aE c.key c.aI) 0)).1 λx_b=>bif x_b.kind==4 then Ct.gJ c (Ct.aY c (kf+1) N) (Ct.aE c.key c.aI) m1 m_b n_b (Ct.slice (Ct.aE c.key c.aI) 0) (Ct.aB n_b (Ct.slice (Ct.aE c.key c.aI) 0)).1 x_b 0 (s.node m1).gen else bif x_b.gen != (s.node m1).gen then Ct.oE c.aF m1 m_b (Ct.slice (Ct.aE c.key c.aI) 0) (λb_b=>bif b_b==0 then(Ct.aY c (kf+1) N)else Ct.eE c (Ct.aE c.key c.aI) (s.node m1).gen (Ct.aY c (kf+1) N) kf m1 b_b (0+1))else Ct.eE c (Ct.aE c.key c.aI) (s.node m1).gen (Ct.aY c (kf+1) N) kf m1 (Ct.aB n_b (Ct.slice (Ct.aE c.key c.aI) 0)).1 (0+1))else .ret {}) _ _ h.to (hs.less (by decide))) λs3 t4 c5 hq6 w h=>?_
 refine rr (cD rfl rfl (h.b a3) Row.h) ?_
 exact jW (qN (hq6)) h.to
theorem Lw(S:fX)(c:Ct.Call)(nK:c.key.size<=64)(N kf n:Nat)(oP:∀j,j<n->kW S c (kf+1) N j)(vC:∀j,j<n->pC S c (kf+1) N kf j)(wb:Nat)(gn pa i lv:Int)(s:Ct.St)(h:SH B w (bl wb (Ac S c gn pa i lv) 158::S.a s::L))(hs:Ct.Rm 30 s)(hl:(kf:Int)+1<=4000000000000000000):
  Calls prog 100 #[↑wb] w λe w'=>CP S jG n B (Ct.aY c (kf+1) (N+1)) s L e w':=by
 have yA:=Ct.eS c.key c.aI
 refine cN func100 ntmps100 h λw h=>?_
 refine jA h λb1 w h=>?_
 refine st (kB (cs:=[S.v,↑c.aF.root,↑c.aF.readOnly]) rfl (hX (h.b a1) 0 rfl) Row.h)<|go h λw h=>?_
 have h:=h.fr (.c r1 .n)
 have h:=SA (j:=60) (S:=S) (F:=jG) (n:=n) (args:=eM) (k:=(λr_b=>.node r_b λa_b=>Ct.eE c (Ct.aE c.key c.aI) a_b.gen (Ct.aY c (kf+1) N) (kf+1) 0 r_b 0)) (v:=(.fn 142 [↑wb] [])) [bl wb (Ac S c gn pa i lv) 158] h λm' nN B' w' L' s' x' h' mD=>Bt eF (Py S c nK N kf m' (λj hj=>oP j (Sc hj nN)) (λj hj=>vC j (Sc hj nN)) wb gn pa i lv (aW _) x' s' h' (mD.less (by decide)) (by omega))
 refine lA (LC S jG _ (.fn 142 [↑wb] []) (λr_b=>.node r_b λa_b=>Ct.eE c (Ct.aE c.key c.aI) a_b.gen (Ct.aY c (kf+1) N) (kf+1) 0 r_b 0) _ _ h.to (hs.less (by decide))) λs2 t3 c4 Vo w h=>?_
 refine rr (cD rfl rfl (h.b a2) Row.h) ?_
 exact jW (Vo) h.to
theorem XB(S:fX)(c:Ct.Call)(nK:c.key.size<=64)(K:Nat)(hK:(K:Int)+1<=4000000000000000000)(n:Nat):n<=K->(∀N,n<=N->kW S c (K+1) (N+1) n)/\(∀N kf,n<=N->n<=kf->pC S c (K+1) N (kf+1) n):=by
 induction n using Nat.strongRecOn with
 |_ n ih=>
  intro hn
  have oP:∀N,n<=N->∀j,j<n->kW S c (K+1) N j:=λN hN j hj=>by
   obtain⟨N',rfl⟩:∃N',N=N'+1:=⟨N-1,by omega⟩
   exact(ih j hj (by omega)).1 N' (by omega)
  have vC:∀N kf,n<=N->n<=kf->∀j,j<n->pC S c (K+1) N kf j:=λN kf hN hk j hj=>by
   obtain⟨k',rfl⟩:∃k',kf=k'+1:=⟨kf-1,by omega⟩
   exact(ih j hj (by omega)).2 N k' (by omega) (by omega)
  exact⟨λN hN wb gn pa i lv B w L s h hs=>Lw S c nK N K n (oP N hN) (vC N K hN hn) wb gn pa i lv s h hs hK,
   λN kf hN hk wb gn pa i lv b B w L s h hs hl=>Ma S c nK (K+1) N kf n (oP N hN) (vC N kf hN hk) wb gn pa i lv b s h hs hl⟩
theorem Vf{k:ByteArray}(h:Ct.bR k=true):k.size<=64:=by unfold Ct.bR at h;simpa using h
theorem XO(c:Ct.Call)(n:Nat):Ct.Ul c n=bif !Ct.bR c.key then .ret {err:=1}else bif decide (c.bF<0)then .ret {err:=1}else bif decide (c.bF>3)then .ret {err:=1}else Ct.aY c n n:=by
 unfold Ct.Ul;cases Ct.bR c.key<;>cases decide (c.bF<0)<;>rfl
theorem PJ(S:fX)(c:Ct.Call)(K N n:Nat)(oP:Ct.bR c.key=true->∀j,j<=n->kW S c K N j)(gX fM jD:Nat)(ky:ByteArray)(pol:Int)(wb:Nat)(gn pa i lv:Int){m:Nat}(hm:m<=n)(s:Ct.St)(h:SH B w (rb gX ([↑ky]) 9::rb fM ([↑pol]) 3::rb jD ([↑wb]) 156::bl wb (Ac S c gn pa i lv) 158::S.a s::L))(hs:Ct.Rm 60 s)(hke:ky=c.key)(hkz:ky.size<=9223372036854775807):
  Calls prog 99 #[↑gX,↑fM,↑jD] w λe w'=>CP S jG m B ((λ_=>bif !Ct.bR ky then .ret {err:=1}else bif decide (pol<0)then .ret {err:=1}else bif decide (pol>3)then .ret {err:=1}else Ct.aY c K N) ()) s L e w':=by
 refine cN func99 ntmps99 h λw h=>?_
 refine jA h λb1 w h=>?_
 refine cl (ca eF rfl) ((AQ ky _ (by omega)).mono ?_)
 rintro _ _ ⟨rfl,rfl⟩
 refine⟨_,rfl,?_⟩
 refine st (nt rfl)<|st (mv rfl)<|?_
 refine qg h (λcO w h=>?_) λcO w h=>?_
 refine bQ (oG ({err:=1}:Ct.Result) h.to) λw h=>?_
 refine rc h ?_
 have h:=kD (S:=S) (n:=m) (r:=({err:=1}:Ct.Result)) h
 exact jW (qT cO rfl) h.to
 have eB:=(hU _).mp cO
 refine qg h (λdM w h=>?_) λdM w h=>?_
 refine bQ (oG ({err:=1}:Ct.Result) h.to) λw h=>?_
 refine rc h ?_
 have h:=kD (S:=S) (n:=m) (r:=({err:=1}:Ct.Result)) h
 exact jW (qF cO (qT dM rfl)) h.to
 refine qc h (λfG w h=>?_) λfG w h=>?_
 refine bQ (oG ({err:=1}:Ct.Result) h.to) λw h=>?_
 refine rc h ?_
 have h:=kD (S:=S) (n:=m) (r:=({err:=1}:Ct.Result)) h
 exact jW (qF cO (qF dM (qT fG rfl))) h.to
 refine lA (oP (hke▸eB) m hm wb gn pa i lv _ _ _ s h.to (hs.less (by decide))) λs11 t12 Uh aS7 w h=>?_
 refine rc h ?_
 exact jW (qF cO (qF dM (qF fG (aS7)))) h.to
theorem Up(S:fX)(N:Nat)(c:Ct.Call)(s:Ct.St)(h:SH B w (S.a s::L))(hs:Ct.Rm 60 s)(vE:c.key.size<=9223372036854775807)(YQ:c.aI<18446744073709551616)(hNN:N<=3000000000000000000):
  Calls prog 63 #[S.v,.agg [↑c.aF.root,↑c.aF.readOnly].toArray,.int .u64 (c.aI:Int),↑c.key,.int .u64 (c.value:Int),↑c.bF,.int .u64 (c.expect:Int)] w λe w'=>∃tb s' u,((bif !Ct.bR c.key then .ret {err:=1}else bif decide (c.bF<0)then .ret {err:=1}else bif decide (c.bF>3)then .ret {err:=1}else Ct.aY c (N+1) (N+1):Ct.I Ct.Result)).head s=(s',u)/\e=.returned (.pointer (some ⟨tb,0,none⟩))/\SH B w' (nM S N tb u 0::S.a s'::L):=by
 refine cN func63 ntmps63 h λw h=>?_
 refine jX h λb1 w h=>?_
 refine jX h λb2 w h=>?_
 refine sf (bx h rfl rfl)<|?_
 rintro _ w ⟨b3,rfl,h⟩
 refine st (sg rfl)<|xe<|nx<|?_
 refine sm (λe w=>∃b5:Nat,∃b4:Nat,Sub 31 e (.c 0 (S.v) (.c 10 ↑b2 (.c 12 ↑b3 (.c 15 ↑b5 .n))))/\SH B w (bl b5 ([↑b4]) 156::bl b4 ([S.v,↑c.aF.root,↑c.aF.readOnly,↑c.key,.int .u64 ((Ct.aE c.key c.aI:Nat):Int),.int .u64 (c.value:Int),↑c.bF,.int .u64 (c.expect:Int),.int .i64 0,.int .i64 0,.int .i64 0,.int .i64 0]) 158::bl b3 ([↑c.bF]) 3::bl b2 ([↑c.key]) 9::bl b1 ([↑c.aF.root,↑c.aF.readOnly]) 35::S.a s::L)) ?_ ?_
 refine drT (F:=[bl b1 ([↑c.aF.root,↑c.aF.readOnly]) 35,bl b2 ([↑c.key]) 9,bl b3 ([↑c.bF]) 3]) (.op 0 true (.op 1 true (.op 2 true (.op 3 true (.op 4 true (.op 5 true (.op 7 true (.op 8 true (.op 9 true (.fork 6 12 (.op 10 true (.fork 11 12 (.op 12 false (.op 13 false .stop)) (.op 11 false (.op 13 false .stop)))) (.op 6 false (.op 10 true (.op 11 false (.op 13 false .stop)))))))))))))) (by kernel_rfl) h (λw h=>(hC (h.at_ a2) (hC (h.at_ a1) (hC (h.at_ a0) hN)))) λw h=>go h λw h=>?_
 refine Zb ?_ ?_
 refine cs (ca eF rfl) ((FQ c.key c.aI _ (by omega) (by omega)).mono ?_)
 rintro _ _ ⟨rfl,rfl⟩
 refine⟨_,rfl,(hC (h.at_ a2) (hC (h.at_ a1) (hC (h.at_ a0) hN))),?_⟩
 refine tk (λW H=>bd [S.v,↑c.aF.root,↑c.aF.readOnly,↑c.key,.int .u64 ((Ct.aE c.key c.aI:Nat):Int),.int .u64 (c.value:Int),↑c.bF,.int .u64 (c.expect:Int),.int .i64 0,.int .i64 0,.int .i64 0,.int .i64 0] d8 rfl (by kernel_rfl))<|?_
 refine Zb ?_ ?_
 refine jY h λb4 w h=>?_
 refine jB h λb5 w h=>?_
 exact⟨b5,b4,⟨rfl,rfl,rfl,rfl,trivial⟩,h⟩
 refine jB h λb6 w h=>?_
 refine jY h λb7 w h=>?_
 exact⟨b6,b7,⟨rfl,rfl,rfl,rfl,trivial⟩,h.to⟩
 refine jB h λb8 w h=>?_
 refine cs (ca eF rfl) ((FQ c.key c.aI _ (by omega) (by omega)).mono ?_)
 rintro _ _ ⟨rfl,rfl⟩
 refine⟨_,rfl,(hC (h.at_ a3) (hC (h.at_ a2) (hC (h.at_ a1) hN))),?_⟩
 refine tk (λW H=>bd [S.v,↑c.aF.root,↑c.aF.readOnly,↑c.key,.int .u64 ((Ct.aE c.key c.aI:Nat):Int),.int .u64 (c.value:Int),↑c.bF,.int .u64 (c.expect:Int),.int .i64 0,.int .i64 0,.int .i64 0,.int .i64 0] d8 rfl (by kernel_rfl))<|?_
 refine jY h λb9 w h=>?_
 exact⟨b8,b9,⟨rfl,rfl,rfl,rfl,trivial⟩,h.to⟩
 rintro e w ⟨b5,b4,hE,h⟩
 refine C.sub hE ?_
 refine go h λw h=>?_
 have yA:=Ct.eS c.key c.aI
 have h:=SH.tH (h.fr (.c r3 .n))
 have h:=SH.tH (h.fr (.c r3 .n))
 have h:=SH.tH (h.fr (.c r2 .n))
 refine go h λw h=>?_
 have h:=h.jF a0
 have h:=h.jF a2
 have h:=h.jF a4
 have h:=h.fr (.c r0 (.c r0 (.c r0 (.c r3 .n))))
 have h:=mkl (S:=S) (F:=jG) (n:=N) (j:=60) (args:=yJ) (k:=(λ_=>bif !Ct.bR c.key then .ret {err:=1}else bif decide (c.bF<0)then .ret {err:=1}else bif decide (c.bF>3)then .ret {err:=1}else Ct.aY c (N+1) (N+1))) (v:=(.fn 99 [] [↑b2,↑b3,↑b5])) [rb b2 ([↑c.key]) 9,rb b3 ([↑c.bF]) 3,rb b5 ([↑b4]) 156,bl b4 (Ac S c 0 0 0 0) 158] h λB' w' L' s' x' h' mD=>Bt eF (PJ S c (N+1) (N+1) N (λhkv j hj=>(XB S c (Vf hkv) N (by omega) j hj).1 N hj) b2 b3 b5 c.key c.bF b4 0 0 0 0 (aW _) s' h' (mD.less (by decide)) rfl (by omega))
 refine lA (n6 S _ (.fn 99 [] [↑b2,↑b3,↑b5]) (λ_=>bif !Ct.bR c.key then .ret {err:=1}else bif decide (c.bF<0)then .ret {err:=1}else bif decide (c.bF>3)then .ret {err:=1}else Ct.aY c (N+1) (N+1)) _ h.to (hs.less (by decide))) λaPn s11 aS0 aOu w h=>?_
 exact rz ⟨aPn,s11,aS0,aOu,rfl,h.to⟩
theorem SW(S:fX)(N:Nat)(c:Ct.Call)(s:Ct.St)(h:SH B w (S.a s::L))(hs:Ct.Rm 60 s)(vE:c.key.size<=9223372036854775807)(YQ:c.aI<18446744073709551616)(hNN:N<=3000000000000000000):
  Calls prog 63 #[S.v,.agg #[↑c.aF.root,↑c.aF.readOnly],.int .u64 (c.aI:Int),↑c.key,.int .u64 (c.value:Int),↑c.bF,.int .u64 (c.expect:Int)] w λe w'=>
   ∃tb s' u,(Ct.Ul c (N+1)).head s=(s',u)/\e=.returned (.pointer (some ⟨tb,0,none⟩))/\SH B w' (nM S N tb u 0::S.a s'::L):=by
 rw[XO];exact Up S N c s h hs vE YQ hNN
end Go.Q9
end
