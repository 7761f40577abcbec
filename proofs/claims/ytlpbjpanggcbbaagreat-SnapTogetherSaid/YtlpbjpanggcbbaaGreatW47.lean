/- Parts of a proof: Pu. -/
import Derived.Test.YtlpbjpanggcbbaaGreatW45
import Derived.Test.YtlpbjpanggcbbaaGreatW46
set_option linter.unusedVariables false
set_option linter.unusedSimpArgs false
set_option maxRecDepth 100000
set_option maxHeartbeats 4000000
section
namespace Go.Q9
open Go.Proofs.Tryz
open Go.RowKit Go.E
attribute [local irreducible] gB wpS Go.E.X XS C jU kP fin Y U F Ca jT bl rb aU bV ex ce pu sK gK bK zK gM fO dH gP nE rD
open Go.Ct (qN qA qC qG qT qF)
def wU(S:dN)(c:Ct.Call)(gn pa i lv:Int):List Value:=[S.v,↑c.aE.root,↑c.aE.readOnly,↑c.key,.int .u64 ((Ct.aH c.key c.aI:Nat):Int),.int .u64 (c.value:Int),↑c.bF,.int .u64 (c.expect:Int),↑gn,↑pa,↑i,↑lv]
def iR(S:dN)(c:Ct.Call)(K N n:Nat):Prop:=∀(wb:Nat) (gn pa i lv:Int) (B w:World) (L:List As) (s:Ct.St),SH B w (bl wb (wU S c gn pa i lv) 102::S.a s::L)->Ct.Rm 30 s->
 Calls prog 46 #[↑wb] w λe w'=>CP S dW n B (Ct.bO c K N) s L e w'
def mG(S:dN)(c:Ct.Call)(K N kf n:Nat):Prop:=∀(wb:Nat) (gn pa i lv b:Int) (B w:World) (L:List As) (s:Ct.St),SH B w (bl wb (wU S c gn pa i lv) 102::S.a s::L)->Ct.Rm 30 s->0<=lv/\lv+1+kf<=4000000000000000000->
 Calls prog 252 #[↑wb,↑b] w λe w'=>CP S dW n B (Ct.gA c (Ct.aH c.key c.aI) gn (Ct.bO c K N) kf i b (lv+1)) s L e w'
theorem tU{L M:Nat}{n:Ct.Node}(h:n.Fit L)(i r:Int):(Ct.aP n i r).1.Fit M:=by
 have f:=Ct.fH h i r
 have e:(Ct.aP n i r).1.aF=[]:=by unfold Ct.aP;split<;>rfl
 exact⟨⟨f.1.1,by rw[e];exact dI _,f.1.2.2⟩,f.2⟩
theorem Ac(a b:Nat):((a:Int)==(b:Int))=(a==b):=by rw[Bool.eq_iff_iff];simp only[mQ];omega
theorem HN{s:Ct.St}{b:Int}(h:((s.node b).kind==4)=true):1<=b:=by
 have h:=eq_of_beq h
 by_cases hb:1<=b
 ·exact hb
 ·exfalso;revert h;unfold Ct.St.node;rw[if_pos (by omega)];decide
variable{B w:World}{L:List As}
theorem oP(S:dN)(c:Ct.Call)(wb:Nat)(gn pa i lv:Int)(found:Bool)(v:Nat)(h:SH B w (bl wb (wU S c gn pa i lv) 102::L)):
  Calls prog 244 #[↑wb,↑found,.int .u64 (v:Int)] w λe w'=>e=.returned (.bool (Ct.cS c found v))/\SH B w' (bl wb (wU S c gn pa i lv) 102::L):=by
 refine bZ func244 ntmps244 h λw h=>?_
 refine qc h (λhd1 w h=>?_) λhd1 w h=>?_
 ·have hg2:=eq_of_beq hd1
  refine go h λw h=>?_
  refine rz ?_
  refine⟨?_,h⟩
  simp_all [Ct.cS,Ac]
 ·have hg3:=eC hd1
  refine go h λw h=>?_
  refine qc h (λhd4 w h=>?_) λhd4 w h=>?_
  ·have hg5:=eq_of_beq hd4
   refine go h λw h=>?_
   refine rz ?_
   refine⟨?_,h⟩
   simp_all [Ct.cS,Ac]
  ·have hg6:=eC hd4
   refine go h λw h=>?_
   refine qc h (λhd7 w h=>?_) λhd7 w h=>?_
   ·have hg8:=eq_of_beq hd7
    refine go h λw h=>?_
    refine qg h (λhd9 w h=>?_) λhd9 w h=>?_
    ·refine rz ?_
     refine⟨?_,h⟩
     simp_all [Ct.cS,Ac]
    ·refine rz ?_
     refine⟨?_,h⟩
     simp_all [Ct.cS,Ac]
   ·have hg10:=eC hd7
    refine go h λw h=>?_
    refine rz ?_
    refine⟨?_,h⟩
    simp_all [Ct.cS,Ac]
theorem Kt(S:dN)(c:Ct.Call)(hk64:c.key.size<=64)(K N kf n:Nat)(hst:∀j,j<=n->iR S c K N j)(hds:∀j,j<=n->mG S c K N kf j)(cb0 cb1 cb2:Nat)(found:Bool)(v:Nat)(wb:Nat)(gn pa i lv:Int){m:Nat}(hm:m<=n)(ok:Bool)(s:Ct.St)(h:SH B w (rb cb0 ([↑wb]) 97::rb cb1 ([↑found]) 4::rb cb2 ([.int .u64 (v:Int)]) 30::bl wb (wU S c gn pa i lv) 102::S.a s::L))(hs:Ct.Rm 40 s):
  Calls prog 278 #[↑ok,↑cb0,↑cb1,↑cb2] w λe w'=>CP S dW m B ((λok_b=>bif !ok_b then(Ct.bO c K N)else .ret (Ct.dL found v)) ok) s L e w':=by
 have hh64:=Ct.eI c.key c.aI
 refine bZ func278 ntmps278 h λw h=>?_
 refine jA h λb1 w h=>?_
 refine qc h (λhd2 w h=>?_) λhd2 w h=>?_
 have hd3:ok=false:=(xE _).mp hd2
 refine go h λw h=>?_
 refine fQ (hst m hm wb gn pa i lv _ _ _ s h.to (hs.less (by decide))) λs4 t5 c6 hq7 w h=>?_
 refine rr (bP rfl rfl (h.b a2) Row.h) ?_
 exact fI (qT hd2 (hq7)) h.to
 have hd8:ok=true:=(cW _).mp hd2
 refine go h λw h=>?_
 refine bA (gV ({found:=found,value:=v,count:=1}:Ct.Result) h.to) λw h=>?_
 refine rr (bP rfl rfl (h.b a0) Row.h) ?_
 have h:=kD (S:=S) (n:=m) (r:=({found:=found,value:=v,count:=1}:Ct.Result)) h
 exact fI (qF hd2 rfl) h.to
theorem kU(S:dN)(c:Ct.Call)(hk64:c.key.size<=64)(K N kf n:Nat)(hst:∀j,j<=n->iR S c K N j)(hds:∀j,j<=n->mG S c K N kf j)(wb:Nat)(gn pa i lv:Int)(m1:Int)(nd:Ct.Node)(qnd:Lq)(ok0:Bool)(found:Bool)(v:Nat)(s:Ct.St)(h:SH B w (bl wb (wU S c gn pa i lv) 102::aM nd qnd::S.a s::L))(hs:Ct.Rm 33 s)(ft_nd:Ct.Node.Fit (s.aG.length+1) nd):
  Calls prog 247 #[↑wb,↑m1,.agg (aL nd qnd).toArray,↑ok0,↑found,.int .u64 (v:Int)] w λe w'=>CP S dW n B (bif !ok0 then .ret {}else .alloc nd m1 λr=>Ct.swapT c.aE i m1 r λok=>bif !ok then Ct.bO c K N else .ret (Ct.dL found v)) s L e w':=by
 refine bZ func247 ntmps247 h λw h=>?_
 refine jX h λb1 w h=>?_
 refine jX h λb2 w h=>?_
 refine jX h λb3 w h=>?_
 refine jX h λb4 w h=>?_
 refine jA h λb5 w h=>?_
 refine qc h (λhd6 w h=>?_) λhd6 w h=>?_
 refine go h λw h=>?_
 refine bA (gV ({}:Ct.Result) h.to) λw h=>?_
 refine rc h ?_
 have h:=kD (S:=S) (n:=n) (r:=({}:Ct.Result)) h
 exact fI (qT hd6 rfl) h.to
 have hd8:=(cW _).mp hd6
 refine go h λw h=>?_
 have h:=SH.kX (h.fr (.c r4 .n))
 have h:=SH.kX (h.fr (.c r3 .n))
 have h:=SH.kX (h.fr (.c r3 .n))
 refine Uc (F:=[rb b1 ([↑wb]) 97,bl wb (wU S c gn pa i lv) 102,bl b2 (aL nd qnd) 90]) [(true,[1,3,5,7,9,11,13,15,17,19,21,23,25,27,29,31,35,32]),(false,[36,38])] (by kernel_rfl) h (λw h=>(hC (h.at_ a2) (hC (h.at_ a5) (hC (h.at_ a4) hN)))) λw h=>go h λw h=>?_
 refine tk (λW H=>gJ (cs:=[S.v,↑c.aE.root,↑c.aE.readOnly]) rfl (eP (H.b a1) 0 rfl) Row.h)<|go h λw h=>?_
 refine cs (ci (S.sA h a7) rfl rfl) ((cQ S s nd qnd m1 h.to hs (ft_nd.mono (by first|omega|(simp only[cY];omega)))).mono ?_)
 rintro _ w ⟨rfl,h⟩
 have hs:=hs.alloc (ft_nd.mono (by first|omega|(simp only[cY];omega))) m1
 refine⟨_,rfl,(hC (h.at_ a3) (hC (h.at_ a6) (hC (h.at_ a5) hN))),?_⟩
 refine go h λw h=>?_
 have h:=h.eT a1
 have h:=h.eT a3
 have h:=h.eT a5
 have h:=h.fr (.c r0 (.c r0 (.c r0 (.c r6 .n))))
 have h:=Me (j:=60) (S:=S) (F:=dW) (n:=n) (args:=dV) (k:=(λok_b=>bif !ok_b then(Ct.bO c K N)else .ret (Ct.dL found v))) (v:=(.fn 278 [] [↑b1,↑b3,↑b4])) [rb b1 ([↑wb]) 97,rb b3 ([↑found]) 4,rb b4 ([.int .u64 (v:Int)]) 30,bl wb (wU S c gn pa i lv) 102] h λm' hm' B' w' L' s' x' h' hs'=>pR eF (Kt S c hk64 K N kf m' (λj hj=>hst j (Fk hj (bI hm'))) (λj hj=>hds j (Fk hj (bI hm'))) b1 b3 b4 found v wb gn pa i lv (JV _) x' s' h' (hs'.less (by decide)))
 refine Zs (xY S dW _ _ _ _ (.fn 278 [] [↑b1,↑b3,↑b4]) (λok_b=>bif !ok_b then(Ct.bO c K N)else .ret (Ct.dL found v)) _ _ h.to (hs.less (by decide))) λs9 t10 c11 hq12 w h=>?_
 refine rc h ?_
 exact fI (qF hd6 (qA (hq12))) h.to
theorem nK(S:dN)(found:Bool)(v:Nat)(n:Nat)(s:Ct.St)(h:SH B w (S.a s::L))(_hs:Ct.Rm 30 s):
  Calls prog 245 #[↑found,.int .u64 (v:Int)] w λe w'=>CP S dW n B ((.ret (Ct.cC found v):Ct.I Ct.Result)) s L e w':=by
 refine bZ func245 ntmps245 h λw h=>?_
 refine jA h λb1 w h=>?_
 refine bA (gV ({found:=found,value:=v}:Ct.Result) h.to) λw h=>?_
 refine rr (bP rfl rfl (h.b a0) Row.h) ?_
 have h:=kD (S:=S) (n:=n) (r:=({found:=found,value:=v}:Ct.Result)) h
 exact fI (rfl) h.to
theorem Zk(S:dN)(c:Ct.Call)(hk64:c.key.size<=64)(K N kf n:Nat)(hst:∀j,j<=n->iR S c K N j)(hds:∀j,j<=n->mG S c K N kf j)(wb:Nat)(gn pa i lv:Int)(m1:Int)(nd:Ct.Node)(qnd:Lq)(s:Ct.St)(h:SH B w (bl wb (wU S c gn pa i lv) 102::aM nd qnd::S.a s::L))(hs:Ct.Rm 40 s)(hk6:nd.kind=6)(ft_nd:Ct.Node.Fit s.aG.length nd):
  Calls prog 199 #[↑wb,↑m1,.agg (aL nd qnd).toArray] w λe w'=>CP S dW n B (Ct.mO c (Ct.bO c K N) i m1 nd) s L e w':=by
 have sz_nd:=iO hs
 have nf_nd:=ft_nd.nf (by omega)
 refine bZ func199 ntmps199 h λw h=>?_
 refine jX h λb1 w h=>?_
 refine sf (al h Hd)<|?_
 rintro _ w ⟨b2,rfl,h⟩
 refine xe<|nx<|?_
 refine sm (λe w=>Sub 49 e (.c 0 ↑wb (.c 1 ↑m1 (.c 5 ↑b1 (.c 6 ↑b2 (.c 7 (.int .u64 (((Ct.bB nd.aF c.key).1:Nat):Int)) (.c 8 (.bool (Ct.bB nd.aF c.key).2) .n))))))/\SH B w (bl b2 ([.int .i64 0,.int .i64 0,.int .i64 0,.int .i64 0,.nilFunc,.nilFunc,.int .i64 0,↑false,.int .u64 0,.string .empty,.int .i64 0,.int .i64 0,.int .i64 0,↑false]) 107::bl b1 (aL nd qnd) 90::bl wb (wU S c gn pa i lv) 102::aM nd qnd::S.a s::L)) ?_ ?_
 have h:=SH.Gs h a3
 have h:=SH.se (l:=[aY nd qnd,cH nd qnd]) h
 have hpv:=(Ct.fJ (nf_nd.v6 hk6)).kG hk6
 have hpn:=ft_nd.1.2.1
 refine dZ [1,3,5,7,9,11,12,15,17,19,20,22] (by kernel_rfl) h (.c r3 (.c r3 .n)) λw h=>go h λw h=>?_
 refine gO (Hp _ _ _ _ h.to hpv (by omega)) λw h=>?_
 exact⟨⟨rfl,rfl,rfl,rfl,rfl,rfl,trivial⟩,h.drop.drop⟩
 rintro e w ⟨hE,h⟩
 refine C.sub hE ?_
 clear hE e
 refine go h λw h=>?_
 refine bA (oP S c _ _ _ _ _ _ _ h.to) λw h=>?_
 rcases CG (!(Ct.cS c (Ct.bB nd.aF c.key).2 (Ct.bB nd.aF c.key).1))with hd3|hd3
 have hd4:=(xE _).mp hd3
 refine go h λw h=>?_
 refine fQ (nK S (Ct.bB nd.aF c.key).2 (Ct.bB nd.aF c.key).1 n s h.to (hs.less (by decide))) λs5 t6 c7 hq8 w h=>?_
 refine rc h ?_
 exact fI (qT hd3 (hq8)) h.to
 have hd9:=(cW _).mp hd3
 refine cf rfl hd3<|sk<|nx<|?_
 refine sm (λe w=>∃b11:Nat,∃q10:Lq,Sub 49 e (.c 0 ↑wb (.c 1 ↑m1 (.c 6 ↑b2 (.c 7 (.int .u64 (((Ct.bB nd.aF c.key).1:Nat):Int)) (.c 8 (.bool (Ct.bB nd.aF c.key).2) (.c 9 ↑b11 (.c 10 (.bool (Ct.grown nd c.key c.value).2) .n)))))))/\SH B w (bl b11 (aL (Ct.grown nd c.key c.value).1 q10) 90::aM (Ct.grown nd c.key c.value).1 q10::aM nd qnd::bl wb (wU S c gn pa i lv) 102::bl b2 ([.int .i64 0,.int .i64 0,.int .i64 0,.int .i64 0,.nilFunc,.nilFunc,.int .i64 0,↑false,.int .u64 0,.string .empty,.int .i64 0,.int .i64 0,.int .i64 0,↑false]) 107::bl b1 (aL nd qnd) 90::S.a s::L)) ?_ ?_
 refine XL (F:=[bl b1 (aL nd qnd) 90,bl wb (wU S c gn pa i lv) 102]) [1,3,5,7,9,11,13,15,17] 9 13 [21,23,25,26,28,30] [18,21,23,25,28,30] (by kernel_rfl) h (λw h=>(hC (h.at_ a2) (hC (h.at_ a0) hN))) λw h=>go h λw h=>?_
 refine YJ ?_ ?_
 refine lH (Ic _ _ _ _ h.to nf_nd (by have:=ft_nd.1.2.1;omega)) λq10 w h=>?_
 refine jB h λb11 w h=>?_
 exact⟨b11,q10,⟨rfl,rfl,rfl,rfl,rfl,rfl,rfl,trivial⟩,h⟩
 refine jB h λb12 w h=>?_
 refine lH (Ic _ _ _ _ h.to nf_nd (by have:=ft_nd.1.2.1;omega)) λq13 w h=>?_
 exact⟨b12,q13,⟨rfl,rfl,rfl,rfl,rfl,rfl,rfl,trivial⟩,h.to⟩
 rintro e w ⟨b11,q10,hE,h⟩
 refine C.sub hE ?_
 clear hE e
 refine go h λw h=>?_
 refine fQ (kU S c hk64 _ _ _ _ hst hds _ _ _ _ _ _ _ _ _ _ _ _ h.to (hs.less (by decide)) (Ct.Ch (ft_nd.mono (by first|omega|(simp only[cY];omega))) c.key c.value)) λs14 t15 c16 hq17 w h=>?_
 refine rc h ?_
 exact fI (qF hd3 (hq17)) h.to
theorem Pl(S:dN)(c:Ct.Call)(hk64:c.key.size<=64)(K N kf n:Nat)(hst:∀j,j<=n->iR S c K N j)(hds:∀j,j<=n->mG S c K N kf j)(wb:Nat)(gn pa i lv:Int)(m1:Int)(nd:Ct.Node)(qnd:Lq)(ix:Int)(s:Ct.St)(h:SH B w (bl wb (wU S c gn pa i lv) 102::aM nd qnd::S.a s::L))(hs:Ct.Rm 40 s)(ft_nd:Ct.Node.Fit s.aG.length nd):
  Calls prog 248 #[↑wb,↑m1,.agg (aL nd qnd).toArray,↑ix] w λe w'=>CP S dW n B (Ct.qY c (Ct.bO c K N) (Ct.aH c.key c.aI) i m1 nd ix) s L e w':=by
 have hh64:=Ct.eI c.key c.aI
 have sz_nd:=iO hs
 have nf_nd:=ft_nd.nf (by omega)
 refine bZ func248 ntmps248 h λw h=>?_
 refine jX h λb1 w h=>?_
 refine jA h λb2 w h=>?_
 refine bA (oP S c _ _ _ _ _ _ _ h.to) λw h=>?_
 refine qc h (λhd3 w h=>?_) λhd3 w h=>?_
 refine fQ (nK S false 0 n s h.to (hs.less (by decide))) λs5 t6 c7 hq8 w h=>?_
 refine rc h ?_
 exact fI (qT hd3 (hq8)) h.to
 have hd9:=(cW _).mp hd3
 refine go h λw h=>?_
 refine dZ [1,3,5,7,9,11,13,15,17,19,21,23,25,27,29,31,33,37,39,34,40,42] (by kernel_rfl) h (.c r0 .n) λw h=>go h λw h=>?_
 refine gO (qD _ _ _ h.to) λw h=>?_
 refine cs (ci (S.sA h a4) rfl rfl) ((cQ S s ({kind:=4,hash:=Ct.aH c.key c.aI,key:=c.key,value:=c.value}:Ct.Node) {} 0 (SH.eE ({kind:=4,hash:=Ct.aH c.key c.aI,key:=c.key,value:=c.value}:Ct.Node) rfl rfl h.to) hs (Ct.iF _ 4 (Ct.aH c.key c.aI) c.key c.value (by decide) hh64 hk64)).mono ?_)
 rintro _ w ⟨rfl,h⟩
 have hs:=hs.alloc (Ct.iF _ 4 (Ct.aH c.key c.aI) c.key c.value (by decide) hh64 hk64) 0
 refine⟨_,rfl,h.hs (.c r1 .n),?_⟩
 refine go h λw h=>?_
 refine cG (Mi _ _ _ _ h.to nf_nd) λq10 w h=>?_
 refine jA h λb11 w h=>?_
 refine fQ (kU S c hk64 _ _ _ _ hst hds _ _ _ _ _ _ _ _ _ _ _ _ h.to (hs.less (by decide)) (Ct.eB (ft_nd.mono (by first|omega|(simp only[cY];omega))) ix (s.alloc ({kind:=4,hash:=Ct.aH c.key c.aI,key:=c.key,value:=c.value}:Ct.Node) 0).2)) λs12 t13 c14 hq15 w h=>?_
 refine rc h ?_
 exact fI (qF hd3 (qA (hq15))) h.to
theorem Ml(S:dN)(c:Ct.Call)(hk64:c.key.size<=64)(K N kf n:Nat)(hst:∀j,j<=n->iR S c K N j)(hds:∀j,j<=n->mG S c K N kf j)(wb:Nat)(gn pa i lv:Int)(m1:Int)(nd:Ct.Node)(qnd:Lq)(ix:Int)(bb:Int)(xd:Ct.Node)(qxd:Lq)(s:Ct.St)(h:SH B w (bl wb (wU S c gn pa i lv) 102::aM nd qnd::aM xd qxd::S.a s::L))(hs:Ct.Rm 60 s)(hl:0<=lv/\lv+1+kf<=4000000000000000000)(hb1:1<=bb)(ft_nd:Ct.Node.Fit s.aG.length nd):
  Calls prog 249 #[↑wb,↑m1,.agg (aL nd qnd).toArray,↑ix,↑bb,.agg (aL xd qxd).toArray] w λe w'=>CP S dW n B (Ct.hX c (Ct.bO c K N) (Ct.aH c.key c.aI) i m1 nd ix bb xd lv gn) s L e w':=by
 have hh64:=Ct.eI c.key c.aI
 have sz_nd:=iO hs
 have nf_nd:=ft_nd.nf (by omega)
 refine bZ func249 ntmps249 h λw h=>?_
 refine jX h λb1 w h=>?_
 refine jX h λb2 w h=>?_
 refine jA h λb3 w h=>?_
 refine dZ [1,3,5,7,9,11,13] (by kernel_rfl) h (.c r1 (.c r2 .n)) λw h=>go h λw h=>?_
 refine qc h (λhd4 w h=>?_) λhd4 w h=>?_
 refine bA (oP S c _ _ _ _ _ _ _ h.to) λw h=>?_
 refine qc h (λhd5 w h=>?_) λhd5 w h=>?_
 refine fQ (nK S true xd.value n s h.to (hs.less (by decide))) λs7 t8 c9 hq10 w h=>?_
 refine rc h ?_
 exact fI (qT hd4 (qT hd5 (hq10))) h.to
 refine go h λw h=>?_
 refine dZ [1,3,5,7,9,11,13,15,17,19,21,23,25,27,29,31,33,37,39,34,40,42] (by kernel_rfl) h (.c r0 .n) λw h=>go h λw h=>?_
 refine gO (qD _ _ _ h.to) λw h=>?_
 refine cs (ci (S.sA h a6) rfl rfl) ((cQ S s ({kind:=4,hash:=Ct.aH c.key c.aI,key:=c.key,value:=c.value}:Ct.Node) {} 0 (SH.eE ({kind:=4,hash:=Ct.aH c.key c.aI,key:=c.key,value:=c.value}:Ct.Node) rfl rfl h.to) hs (Ct.iF _ 4 (Ct.aH c.key c.aI) c.key c.value (by decide) hh64 hk64)).mono ?_)
 rintro _ w ⟨rfl,h⟩
 have hs:=hs.alloc (Ct.iF _ 4 (Ct.aH c.key c.aI) c.key c.value (by decide) hh64 hk64) 0
 refine⟨_,rfl,h.hs (.c r1 .n),?_⟩
 refine ef (sg rfl) (h.hs (.c r1 .n))<|xz<|nx<|?_
 refine sm (λe w=>∃b13:Nat,∃q12:Lq,Sub 137 e (.c 0 ↑wb (.c 1 ↑m1 (.c 11 ↑b2 (.c 12 ↑b3 (.c 14 ↑b13 (.c 15 (.bool (Ct.aP nd ix (s.alloc ({kind:=4,hash:=Ct.aH c.key c.aI,key:=c.key,value:=c.value}:Ct.Node) 0).2).2) .n))))))/\SH B w (bl b13 (aL (Ct.aP nd ix (s.alloc ({kind:=4,hash:=Ct.aH c.key c.aI,key:=c.key,value:=c.value}:Ct.Node) 0).2).1 q12) 90::aM (Ct.aP nd ix (s.alloc ({kind:=4,hash:=Ct.aH c.key c.aI,key:=c.key,value:=c.value}:Ct.Node) 0).2).1 q12::aM nd qnd::S.a (s.alloc ({kind:=4,hash:=Ct.aH c.key c.aI,key:=c.key,value:=c.value}:Ct.Node) 0).1::bl wb (wU S c gn pa i lv) 102::bl b3 ([.int .i64 0,.int .i64 0,.int .i64 0,.int .i64 0,.nilFunc,.nilFunc,.int .i64 0,↑false,.int .u64 0,.string .empty,.int .i64 0,.int .i64 0,.int .i64 0,↑false]) 107::bl b2 (aL xd qxd) 90::bl b1 (aL nd qnd) 90::aM xd qxd::L)) ?_ ?_
 refine go h λw h=>?_
 refine cG (gI _ _ _ _ h.to nf_nd) λq12 w h=>?_
 refine jA h λb13 w h=>?_
 exact⟨b13,q12,⟨rfl,rfl,rfl,rfl,rfl,rfl,trivial⟩,h⟩
 rintro e w ⟨b13,q12,hE,h⟩
 refine C.sub hE ?_
 clear hE e
 refine go h λw h=>?_
 refine fQ (kU S c hk64 _ _ _ _ hst hds _ _ _ _ _ _ _ _ _ _ _ _ h.to (hs.less (by decide)) (tU ft_nd ix (s.alloc ({kind:=4,hash:=Ct.aH c.key c.aI,key:=c.key,value:=c.value}:Ct.Node) 0).2)) λs14 t15 c16 hq17 w h=>?_
 refine rc h ?_
 exact fI (qT hd4 (qF hd5 (qA (hq17)))) h.to
 refine bA (oP S c _ _ _ _ _ _ _ h.to) λw h=>?_
 refine qc h (λhd18 w h=>?_) λhd18 w h=>?_
 have hd19:=(xE _).mp hd18
 refine go h λw h=>?_
 refine fQ (nK S false 0 n s h.to (hs.less (by decide))) λs20 t21 c22 hq23 w h=>?_
 refine rc h ?_
 exact fI (qF hd4 (qT hd18 (hq23))) h.to
 have hd24:=(cW _).mp hd18
 refine go h λw h=>?_
 refine dZ [1,3,5,7,9,11,13,15,17,19,21,23,25,27,29,31,33,35,37,39,41,43,45,47,49,51,53,54,57,59,61,62,64] (by kernel_rfl) h (.c r0 .n) λw h=>go h λw h=>?_
 refine tk (λW H=>ba (lv+1))<|go h λw h=>?_
 refine cs (ca eF rfl) ((JI 35 S bb (Ct.aH c.key c.aI) c.key c.value (lv+1) gn s (h.fr (.c r6 .n)) hs (by omega) hh64 (by omega)).mono ?_)
 rintro _ w ⟨sz25,rz26,ez27,hb28,hr29,hs,rfl,h⟩
 refine⟨_,rfl,h.hs (.c r1 .n),?_⟩
 refine tk (λW H=>mv rfl)<|tk (λW H=>xr rfl rfl)<|tk (λW H=>xr rfl rfl)<|ef (sg rfl) (h.hs (.c r1 .n))<|ef (sg rfl) (h.hs (.c r1 .n))<|xz<|nx<|sq<|sq<|rg<|st (mv rfl)<|st (bi rfl rfl rfl)<|xe<|nx<|?_
 refine go h λw h=>?_
 rcases CG ((ez27:Int) != 0)with hd30|hd30
 have hg31:=bne_iff_ne.1 hd30
 refine go h λw h=>?_
 refine bA (gV ({err:=ez27}:Ct.Result) h.to) λw h=>?_
 refine rc h ?_
 have h:=kD (S:=S) (n:=n) (r:=({err:=ez27}:Ct.Result)) h
 exact fI (qF hd4 (qF hd18 ((hb28 _).trans (qT hd30 rfl)))) h.to
 have hg32:=eS hd30
 refine cf rfl hd30<|sk<|nx<|?_
 refine sm (λe w=>Sub 137 e (.c 0 ↑wb (.c 1 ↑m1 (.c 3 ↑ix (.c 8 ↑b1 (.c 12 ↑b3 (.c 18 (.int .i64 (sz25.alloc ({kind:=2,gen:=gn}:Ct.Node) rz26).2) .n))))))/\SH B w (S.a (sz25.alloc ({kind:=2,gen:=gn}:Ct.Node) rz26).1::bl wb (wU S c gn pa i lv) 102::bl b3 ([.int .i64 0,.int .i64 0,.int .i64 0,.int .i64 0,.nilFunc,.nilFunc,.int .i64 0,↑false,.int .u64 0,.string .empty,.int .i64 0,.int .i64 0,.int .i64 0,↑false]) 107::bl b2 (aL xd qxd) 90::bl b1 (aL nd qnd) 90::aM nd qnd::aM xd qxd::L)) ?_ ?_
 refine dZ [1,3,5,7,9,11,13,15,17,21,23,25,18,26,28] (by kernel_rfl) h (.c r1 .n) λw h=>go h λw h=>?_
 refine gO (nA _ h.to) λw h=>?_
 refine cs (ci (S.sA h a0) rfl rfl) ((cQ S sz25 ({kind:=2,gen:=gn}:Ct.Node) {} rz26 (SH.eE ({kind:=2,gen:=gn}:Ct.Node) rfl rfl h.to) hs (Ct.bG _ 2 gn 0 0 0)).mono ?_)
 rintro _ w ⟨rfl,h⟩
 have hs:=hs.alloc (Ct.bG _ 2 gn 0 0 0) rz26
 refine⟨_,rfl,h.hs (.c r1 .n),?_⟩
 refine go h λw h=>?_
 exact⟨⟨rfl,rfl,rfl,rfl,rfl,rfl,trivial⟩,h⟩
 rintro e w ⟨hE,h⟩
 refine C.sub hE ?_
 clear hE e
 have hs:=hs.alloc (Ct.bG _ 2 gn 0 0 0) rz26
 refine go h λw h=>?_
 refine cG (gI _ _ _ _ h.to nf_nd) λq33 w h=>?_
 refine jA h λb34 w h=>?_
 refine fQ (kU S c hk64 _ _ _ _ hst hds _ _ _ _ _ _ _ _ _ _ _ _ h.to (hs.less (by decide)) (tU ft_nd ix (sz25.alloc ({kind:=2,gen:=gn}:Ct.Node) rz26).2)) λs35 t36 c37 hq38 w h=>?_
 refine rc h ?_
 exact fI (qF hd4 (qF hd18 ((hb28 _).trans (qF hd30 (qA (hq38)))))) h.to
theorem Ib(S:dN)(c:Ct.Call)(hk64:c.key.size<=64)(K N kf n:Nat)(hst:∀j,j<=n->iR S c K N j)(hds:∀j,j<=n->mG S c K N kf j)(wb:Nat)(gn pa i lv:Int){m:Nat}(hm:m<=n)(ok:Bool)(s:Ct.St)(h:SH B w (bl wb (wU S c gn pa i lv) 102::S.a s::L))(hs:Ct.Rm 40 s):
  Calls prog 198 #[↑wb,↑ok] w λe w'=>CP S dW m B ((λ_=>(Ct.bO c K N)) ok) s L e w':=by
 have hh64:=Ct.eI c.key c.aI
 refine bZ func198 ntmps198 h λw h=>?_
 refine jA h λb1 w h=>?_
 refine fQ (hst m hm wb gn pa i lv _ _ _ s h.to (hs.less (by decide))) λs2 t3 c4 hq5 w h=>?_
 refine rr (bP rfl rfl (h.b a2) Row.h) ?_
 exact fI (hq5) h.to
theorem Cy(S:dN)(c:Ct.Call)(hk64:c.key.size<=64)(K N kf n:Nat)(hst:∀j,j<=n->iR S c K N j)(hds:∀j,j<=n->mG S c K N kf j)(wb:Nat)(gn pa i lv:Int){m:Nat}(hm:m<=n)(m1:Int)(s:Ct.St)(h:SH B w (bl wb (wU S c gn pa i lv) 102::S.a s::L))(hs:Ct.Rm 40 s)(hl:0<=lv/\lv+1+kf<=4000000000000000000):
  Calls prog 251 #[↑wb,↑m1] w λe w'=>CP S dW m B ((λb_b=>bif b_b==0 then(Ct.bO c K N)else Ct.gA c (Ct.aH c.key c.aI) gn (Ct.bO c K N) kf i b_b (lv+1)) m1) s L e w':=by
 have hh64:=Ct.eI c.key c.aI
 refine bZ func251 ntmps251 h λw h=>?_
 refine jA h λb1 w h=>?_
 refine qc h (λhd2 w h=>?_) λhd2 w h=>?_
 have hg3:=eq_of_beq hd2
 refine go h λw h=>?_
 refine fQ (hst m hm wb gn pa i lv _ _ _ s h.to (hs.less (by decide))) λs4 t5 c6 hq7 w h=>?_
 refine rr (bP rfl rfl (h.b a2) Row.h) ?_
 exact fI (qT hd2 (hq7)) h.to
 have hg8:=eC hd2
 refine go h λw h=>?_
 refine fQ (hds m hm wb gn pa i lv m1 _ _ _ s h.to (hs.less (by decide)) (by omega)) λs9 t10 c11 hq12 w h=>?_
 refine rr (bP rfl rfl (h.b a2) Row.h) ?_
 exact fI (qF hd2 (hq12)) h.to
theorem Km(S:dN)(c:Ct.Call)(hk64:c.key.size<=64)(K N kf n:Nat)(hst:∀j,j<=n->iR S c K N j)(hds:∀j,j<=n->mG S c K N kf j)(wb:Nat)(gn pa i lv:Int)(m1:Int)(nd:Ct.Node)(qnd:Lq)(s:Ct.St)(h:SH B w (bl wb (wU S c gn pa i lv) 102::aM nd qnd::S.a s::L))(hs:Ct.Rm 60 s)(hl:0<=lv/\lv+1+kf<=4000000000000000000)(ft_nd:Ct.Node.Fit s.aG.length nd):
  Calls prog 200 #[↑wb,↑m1,.agg (aL nd qnd).toArray] w λe w'=>CP S dW n B (bif !(Ct.aB nd (Ct.slice (Ct.aH c.key c.aI) lv)).2 then Ct.qY c (Ct.bO c K N) (Ct.aH c.key c.aI) i m1 nd (Ct.slice (Ct.aH c.key c.aI) lv)else .node (Ct.aB nd (Ct.slice (Ct.aH c.key c.aI) lv)).1 λx=>bif x.kind==4 then Ct.hX c (Ct.bO c K N) (Ct.aH c.key c.aI) i m1 nd (Ct.slice (Ct.aH c.key c.aI) lv) (Ct.aB nd (Ct.slice (Ct.aH c.key c.aI) lv)).1 x lv gn else bif x.gen != gn then Ct.pD c.aE i m1 (Ct.slice (Ct.aH c.key c.aI) lv) (λb=>bif b==0 then(Ct.bO c K N)else Ct.gA c (Ct.aH c.key c.aI) gn (Ct.bO c K N) kf i b (lv+1))else Ct.gA c (Ct.aH c.key c.aI) gn (Ct.bO c K N) kf i (Ct.aB nd (Ct.slice (Ct.aH c.key c.aI) lv)).1 (lv+1)) s L e w':=by
 have hh64:=Ct.eI c.key c.aI
 have sz_nd:=iO hs
 have nf_nd:=ft_nd.nf (by omega)
 refine bZ func200 ntmps200 h λw h=>?_
 refine jX h λb1 w h=>?_
 refine sf (al h Hd)<|?_
 rintro _ w ⟨b2,rfl,h⟩
 refine xe<|nx<|?_
 refine sm (λe w=>Sub 73 e (.c 0 ↑wb (.c 1 ↑m1 (.c 5 ↑b1 (.c 6 ↑b2 (.c 7 (.int .i64 (Ct.slice (Ct.aH c.key c.aI) lv)) .n)))))/\SH B w (bl b2 ([.int .i64 0,.int .i64 0,.int .i64 0,.int .i64 0,.nilFunc,.nilFunc,.int .i64 0,↑false,.int .u64 0,.string .empty,.int .i64 0,.int .i64 0,.int .i64 0,↑false]) 107::bl b1 (aL nd qnd) 90::bl wb (wU S c gn pa i lv) 102::aM nd qnd::S.a s::L)) ?_ ?_
 refine dZ [1,3,5,7,9,11,13,15,16,18] (by kernel_rfl) h (.c r2 .n) λw h=>go h λw h=>?_
 refine cs (ca eF rfl) ((nB (Ct.aH c.key c.aI) lv _ (by omega)).mono ?_)
 rintro _ _ ⟨rfl,rfl⟩
 refine⟨_,rfl,h.hs (.c r2 .n),?_⟩
 refine ef (sg rfl) (h.hs (.c r2 .n))<|xz<|nx<|?_
 refine go h λw h=>?_
 exact⟨⟨rfl,rfl,rfl,rfl,rfl,trivial⟩,h⟩
 rintro e w ⟨hE,h⟩
 refine C.sub hE ?_
 clear hE e
 refine sm (λe w=>Sub 73 e (.c 0 ↑wb (.c 1 ↑m1 (.c 5 ↑b1 (.c 6 ↑b2 (.c 7 (.int .i64 (Ct.slice (Ct.aH c.key c.aI) lv)) (.c 8 (.int .i64 (Ct.aB nd (Ct.slice (Ct.aH c.key c.aI) lv)).1) (.c 9 (.bool (Ct.aB nd (Ct.slice (Ct.aH c.key c.aI) lv)).2) .n)))))))/\SH B w (aM nd qnd::bl b2 ([.int .i64 0,.int .i64 0,.int .i64 0,.int .i64 0,.nilFunc,.nilFunc,.int .i64 0,↑false,.int .u64 0,.string .empty,.int .i64 0,.int .i64 0,.int .i64 0,↑false]) 107::bl b1 (aL nd qnd) 90::bl wb (wU S c gn pa i lv) 102::S.a s::L)) ?_ ?_
 refine go h λw h=>?_
 refine bA (pX _ _ _ _ _ _ h.to nf_nd) λw h=>?_
 exact⟨⟨rfl,rfl,rfl,rfl,rfl,rfl,rfl,trivial⟩,h⟩
 rintro e w ⟨hE,h⟩
 refine C.sub hE ?_
 clear hE e
 refine go h λw h=>?_
 refine qc h (λhd3 w h=>?_) λhd3 w h=>?_
 have hd4:=(xE _).mp hd3
 refine go h λw h=>?_
 refine fQ (Pl S c hk64 _ _ _ _ hst hds _ _ _ _ _ _ _ _ _ _ h.to (hs.less (by decide)) (ft_nd.mono (by first|omega|(simp only[cY];omega)))) λs5 t6 c7 hq8 w h=>?_
 refine rc h ?_
 exact fI (qT hd3 (hq8)) h.to
 have hd9:=(cW _).mp hd3
 refine go h λw h=>?_
 refine cl (ci (S.sN h a4) rfl rfl) ((cK S s (Ct.aB nd (Ct.slice (Ct.aH c.key c.aI) lv)).1 h.to hs).mono ?_)
 rintro _ w ⟨q10,rfl,h⟩
 have ft_q10:=hs.node (Ct.aB nd (Ct.slice (Ct.aH c.key c.aI) lv)).1
 have sz_q10:=iO hs
 have nf_q10:=ft_q10.nf (by omega)
 refine⟨_,rfl,?_⟩
 refine jA h λb11 w h=>?_
 refine qc h (λhd12 w h=>?_) λhd12 w h=>?_
 have hg13:=eq_of_beq hd12
 refine go h λw h=>?_
 refine fQ (Ml S c hk64 _ _ _ _ hst hds _ _ _ _ _ _ _ _ _ _ _ _ _ h.to (hs.less (by decide)) (by omega) (HN hd12) (ft_nd.mono (by first|omega|(simp only[cY];omega)))) λs14 t15 c16 hq17 w h=>?_
 refine rc h ?_
 exact fI (qF hd3 (qN (qT hd12 (hq17)))) h.to
 have hg18:=eC hd12
 refine go h λw h=>?_
 refine dZ [1,3,5,7,9,11,13] (by kernel_rfl) h (.c r0 (.c r5 .n)) λw h=>go h λw h=>?_
 refine qc h (λhd19 w h=>?_) λhd19 w h=>?_
 have hg20:=bne_iff_ne.1 hd19
 refine go h λw h=>?_
 refine Uc (F:=[bl wb (wU S c gn pa i lv) 102]) [(true,[1,3,5,7,9,11,13,15,17,19,21,23]),(false,[24,26])] (by kernel_rfl) h (λw h=>(hC (h.at_ a6) hN)) λw h=>go h λw h=>?_
 refine tk (λW H=>gJ (cs:=[S.v,↑c.aE.root,↑c.aE.readOnly]) rfl (eP (H.b a0) 0 rfl) Row.h)<|go h λw h=>?_
 have h:=h.fr (.c r6 .n)
 have h:=YZ (S:=S) (F:=dW) (n:=n) (j:=40) (args:=dQ) (k:=(λb_b=>bif b_b==0 then(Ct.bO c K N)else Ct.gA c (Ct.aH c.key c.aI) gn (Ct.bO c K N) kf i b_b (lv+1))) (v:=(.fn 251 [↑wb] [])) [bl wb (wU S c gn pa i lv) 102] h λB' w' L' s' x' h' hs'=>pR eF (Cy S c hk64 K N kf n hst hds wb gn pa i lv (JV _) x' s' h' (hs'.less (by decide)) (by omega))
 refine Zs (Wr S dW _ _ _ _ (.fn 251 [↑wb] []) (λb_b=>bif b_b==0 then(Ct.bO c K N)else Ct.gA c (Ct.aH c.key c.aI) gn (Ct.bO c K N) kf i b_b (lv+1)) _ _ h.to (hs.less (by decide))) λs21 t22 c23 hq24 w h=>?_
 refine rc h ?_
 exact fI (qF hd3 (qN (qF hd12 (qT hd19 (hq24))))) h.to
 have hg25:=eS hd19
 refine go h λw h=>?_
 refine fQ (hds n (JV _) wb gn pa i lv (Ct.aB nd (Ct.slice (Ct.aH c.key c.aI) lv)).1 _ _ _ s h.to (hs.less (by decide)) (by omega)) λs26 t27 c28 hq29 w h=>?_
 refine rc h ?_
 exact fI (qF hd3 (qN (qF hd12 (qF hd19 (hq29))))) h.to
theorem vL(S:dN)(c:Ct.Call)(hk64:c.key.size<=64)(K N kf n:Nat)(hst:∀j,j<=n->iR S c K N j)(hds:∀j,j<=n->mG S c K N kf j)(wb:Nat)(gn pa i lv:Int){m:Nat}(hm:m<=n)(m1:Int)(s:Ct.St)(h:SH B w (bl wb (wU S c gn pa i lv) 102::S.a s::L))(hs:Ct.Rm 60 s)(hl:0<=lv/\lv+1+kf<=4000000000000000000):
  Calls prog 139 #[↑wb,↑m1] w λe w'=>CP S dW m B ((λm_b=>.node m_b λn_b=>bif n_b.kind==5 then Ct.qW c.aE pa i (Ct.aH c.key c.aI) (lv-1) (λ_=>(Ct.bO c K N))else bif n_b.kind==6 then Ct.mO c (Ct.bO c K N) i m_b n_b else bif n_b.kind==3 then(bif !(Ct.aB n_b (Ct.slice (Ct.aH c.key c.aI) lv)).2 then Ct.qY c (Ct.bO c K N) (Ct.aH c.key c.aI) i m_b n_b (Ct.slice (Ct.aH c.key c.aI) lv)else .node (Ct.aB n_b (Ct.slice (Ct.aH c.key c.aI) lv)).1 λx_b=>bif x_b.kind==4 then Ct.hX c (Ct.bO c K N) (Ct.aH c.key c.aI) i m_b n_b (Ct.slice (Ct.aH c.key c.aI) lv) (Ct.aB n_b (Ct.slice (Ct.aH c.key c.aI) lv)).1 x_b lv gn else bif x_b.gen != gn then Ct.pD c.aE i m_b (Ct.slice (Ct.aH c.key c.aI) lv) (λb_b=>bif b_b==0 then(Ct.bO c K N)else Ct.gA c (Ct.aH c.key c.aI) gn (Ct.bO c K N) kf i b_b (lv+1))else Ct.gA c (Ct.aH c.key c.aI) gn (Ct.bO c K N) kf i (Ct.aB n_b (Ct.slice (Ct.aH c.key c.aI) lv)).1 (lv+1))else .ret {}) m1) s L e w':=by
 have hh64:=Ct.eI c.key c.aI
 refine bZ func139 ntmps139 h λw h=>?_
 refine jA h λb1 w h=>?_
 refine cl (ci (S.sN h a2) rfl rfl) ((cK S s m1 h.to hs).mono ?_)
 rintro _ w ⟨q2,rfl,h⟩
 have ft_q2:=hs.node m1
 refine⟨_,rfl,?_⟩
 refine jA h λb3 w h=>?_
 refine qc h (λhd4 w h=>?_) λhd4 w h=>?_
 ·refine Uc (F:=[bl wb (wU S c gn pa i lv) 102]) [(true,[1,3,5,7,9,11,13,15,17,19,21,23,25,27,29,31,33,35,37,39,41,43,45]),(false,[46,48])] (by kernel_rfl) h (λw h=>(hC (h.at_ a4) hN)) λw h=>go h λw h=>?_
  refine tk (λW H=>gJ (cs:=[S.v,↑c.aE.root,↑c.aE.readOnly]) rfl (eP (H.b a0) 0 rfl) Row.h)<|go h λw h=>?_
  refine tk (λW H=>bs (lv-1))<|go h λw h=>?_
  have h:=h.fr (.c r4 .n)
  have h:=Me (j:=50) (S:=S) (F:=dW) (n:=m) (args:=dV) (k:=(λ_=>(Ct.bO c K N))) (v:=(.fn 198 [↑wb] [])) [bl wb (wU S c gn pa i lv) 102] h λm' hm' B' w' L' s' x' h' hs'=>pR eF (Ib S c hk64 K N kf m (λj hj=>hst j (Fk hj hm)) (λj hj=>hds j (Fk hj hm)) wb gn pa i lv (bI hm') x' s' h' (hs'.less (by decide)))
  refine Zs (Yd S dW _ _ _ _ _ (.fn 198 [↑wb] []) (λ_=>(Ct.bO c K N)) _ _ h.to (hs.less (by decide)) hh64) λs6 t7 c8 hq9 w h=>?_
  refine rc h ?_
  exact fI (qN (qT hd4 (hq9))) h.to
 ·refine qc h (λhd11 w h=>?_) λhd11 w h=>?_
  ·refine fQ (Zk S c hk64 _ _ _ _ (λj hj=>hst j (Fk hj hm)) (λj hj=>hds j (Fk hj hm)) _ _ _ _ _ _ _ _ _ h.to (hs.less (by decide)) (by have:=eq_of_beq hd11;omega) (ft_q2.mono (by first|omega|(simp only[cY];omega)))) λs13 t14 c15 hq16 w h=>?_
   refine rc h ?_
   exact fI (qN (qF hd4 (qT hd11 (hq16)))) h.to
  ·refine qc h (λhd18 w h=>?_) λhd18 w h=>?_
   ·refine fQ (Km S c hk64 _ _ _ _ (λj hj=>hst j (Fk hj hm)) (λj hj=>hds j (Fk hj hm)) _ _ _ _ _ _ _ _ _ h.to (hs.less (by decide)) (by omega) (ft_q2.mono (by first|omega|(simp only[cY];omega)))) λs20 t21 c22 hq23 w h=>?_
    refine rc h ?_
    exact fI (qN (qF hd4 (qF hd11 (qT hd18 (hq23))))) h.to
   ·refine bA (gV ({}:Ct.Result) h.to) λw h=>?_
    refine rc h ?_
    have h:=kD (S:=S) (n:=m) (r:=({}:Ct.Result)) h
    exact fI (qN (qF hd4 (qF hd11 (qF hd18 rfl)))) h.to
section
attribute [local semireducible] gB wpS Go.E.X XS C jU kP fin Y U F Ca jT bl rb aU bV ex ce pu sK gK bK zK gM fO dH gP nE rD
attribute [local irreducible] gB wpS
variable{B w:World}{L:List As}
theorem Fj(S:dN)(c:Ct.Call)(hk64:c.key.size<=64)(K N kf n:Nat)(hst:∀j,j<n->iR S c K N j)(hds:∀j,j<n->mG S c K N kf j)(wb:Nat)(gn pa i lv:Int)(b:Int)(s:Ct.St)(h:SH B w (bl wb (wU S c gn pa i lv) 102::S.a s::L))(hs:Ct.Rm 30 s)(hl:0<=lv/\lv+1+((kf+1:Nat):Int)<=4000000000000000000):
  Calls prog 252 #[↑wb,↑b] w λe w'=>CP S dW n B (Ct.gA c (Ct.aH c.key c.aI) gn (Ct.bO c K N) (kf+1) i b (lv+1)) s L e w':=by
 refine Ea (args:=[_,_]) func252 rfl ntmps252 rfl ?_
 refine sq<|rg<|sf (al h Hd)<|?_
 rintro _ w ⟨b1,rfl,h⟩
 refine xe<|nx<|sq<|Uc (F:=[ce wb 10 (.int .i64 i),ce wb 11 (.int .i64 lv)]) [(true,[1,3]),(false,[5]),(true,[7,9,11,13,15,17,19,21,23]),(false,[25]),(true,[27,29,30,33,35]),(false,[36,39,41,42])] (by kernel_rfl) h (λw h=>(hC (h.pS a1 rfl) (hC (h.pS a1 rfl) hN))) λw h=>VP<|tk (λW H=>mv rfl)<|tk (λW H=>mv rfl)<|Zp<|tk (λW H=>mv rfl)<|UW<|tk (λW H=>mv rfl)<|tk (λW H=>nc rfl rfl)<|tk (λW H=>fa Vh rfl)<|tk (λW H=>ld fZ rfl (H.ce a0))<|tk (λW H=>mv rfl)<|tk (λW H=>mv rfl)<|tk (λW H=>nc rfl rfl)<|tk (λW H=>fa HF rfl)<|tk (λW H=>ld jE rfl (H.ce a1))<|Zp<|tk (λW H=>bw rfl rfl (gN (c:=lv+1) (by omega) (by omega) (by omega)))<|UW<|tk (λW H=>nc rfl rfl)<|tk (λW H=>fa YV rfl)<|ff (so h rfl rfl rfl nW rfl (.s (.s (.s (.s (.s (.s (.s (.s (.s (.r .d)))))))))) u1)<|?_
 rintro _ w h
 refine⟨(hC (h.pS a1 rfl) (hC (h.pS a1 rfl) hN)),?_⟩
 refine tk (λW H=>nc rfl rfl)<|tk (λW H=>fa Vh rfl)<|Zp<|ff (so h rfl rfl rfl nW rfl (.s (.s (.s (.s (.s (.s (.s (.s (.s (.s (.r .d))))))))))) u1)<|?_
 rintro _ w h
 refine⟨trivial,?_⟩
 refine tk (λW H=>nc rfl rfl)<|tk (λW H=>fa HF rfl)<|ff (so h rfl rfl rfl Bf rfl (.s (.s (.s (.s (.s (.s (.s (.s (.s (.s (.s (.r .d)))))))))))) u1)<|?_
 rintro _ w h
 refine⟨trivial,?_⟩
 refine xz<|nx<|sq<|Uc (F:=[bl wb ([S.v,↑c.aE.root,↑c.aE.readOnly,↑c.key,.int .u64 ((Ct.aH c.key c.aI:Nat):Int),.int .u64 (c.value:Int),↑c.bF,.int .u64 (c.expect:Int),↑gn,↑i,↑b,.int .i64 (lv+1)]) 102]) [(true,[1,3,5,7,9,11,13,15,17,19]),(false,[20,22])] (by kernel_rfl) h (λw h=>(hC (h.at_ a1) hN)) λw h=>VP<|tk (λW H=>mv rfl)<|tk (λW H=>nc rfl rfl)<|tk (λW H=>fa ZJ rfl)<|tk (λW H=>gJ (cs:=[S.v,↑c.aE.root,↑c.aE.readOnly]) rfl (eP (H.b a0) 0 rfl) S3)<|tk (λW H=>mv rfl)<|tk (λW H=>nc rfl rfl)<|tk (λW H=>fa Vh rfl)<|tk (λW H=>ld fZ rfl (H.c a0 rfl))<|tk (λW H=>mv rfl)<|tk (λW H=>mf rfl rfl)<|Zp<|?_
 have h:=h.fr (.c r1 .n)
 have h:=Me (j:=60) (S:=S) (F:=dW) (n:=n) (args:=dQ) (k:=(λm_b=>.node m_b λn_b=>bif n_b.kind==5 then Ct.qW c.aE i b (Ct.aH c.key c.aI) ((lv+1)-1) (λ_=>(Ct.bO c K N))else bif n_b.kind==6 then Ct.mO c (Ct.bO c K N) b m_b n_b else bif n_b.kind==3 then(bif !(Ct.aB n_b (Ct.slice (Ct.aH c.key c.aI) (lv+1))).2 then Ct.qY c (Ct.bO c K N) (Ct.aH c.key c.aI) b m_b n_b (Ct.slice (Ct.aH c.key c.aI) (lv+1))else .node (Ct.aB n_b (Ct.slice (Ct.aH c.key c.aI) (lv+1))).1 λx_b=>bif x_b.kind==4 then Ct.hX c (Ct.bO c K N) (Ct.aH c.key c.aI) b m_b n_b (Ct.slice (Ct.aH c.key c.aI) (lv+1)) (Ct.aB n_b (Ct.slice (Ct.aH c.key c.aI) (lv+1))).1 x_b (lv+1) gn else bif x_b.gen != gn then Ct.pD c.aE b m_b (Ct.slice (Ct.aH c.key c.aI) (lv+1)) (λb_b=>bif b_b==0 then(Ct.bO c K N)else Ct.gA c (Ct.aH c.key c.aI) gn (Ct.bO c K N) kf b b_b ((lv+1)+1))else Ct.gA c (Ct.aH c.key c.aI) gn (Ct.bO c K N) kf b (Ct.aB n_b (Ct.slice (Ct.aH c.key c.aI) (lv+1))).1 ((lv+1)+1))else .ret {})) (v:=(.fn 139 [↑wb] [])) [bl wb (wU S c gn i b (lv+1)) 102] h λm' hm' B' w' L' s' x' h' hs'=>pR eF (vL S c hk64 K N kf m' (λj hj=>hst j (Ab hj hm')) (λj hj=>hds j (Ab hj hm')) wb gn i b (lv+1) (JV _) x' s' h' (hs'.less (by decide)) (by omega))
 refine cs (ca eF rfl) ((jZ S dW c.aE b (.fn 139 [↑wb] []) (λm_b=>.node m_b λn_b=>bif n_b.kind==5 then Ct.qW c.aE i b (Ct.aH c.key c.aI) ((lv+1)-1) (λ_=>(Ct.bO c K N))else bif n_b.kind==6 then Ct.mO c (Ct.bO c K N) b m_b n_b else bif n_b.kind==3 then(bif !(Ct.aB n_b (Ct.slice (Ct.aH c.key c.aI) (lv+1))).2 then Ct.qY c (Ct.bO c K N) (Ct.aH c.key c.aI) b m_b n_b (Ct.slice (Ct.aH c.key c.aI) (lv+1))else .node (Ct.aB n_b (Ct.slice (Ct.aH c.key c.aI) (lv+1))).1 λx_b=>bif x_b.kind==4 then Ct.hX c (Ct.bO c K N) (Ct.aH c.key c.aI) b m_b n_b (Ct.slice (Ct.aH c.key c.aI) (lv+1)) (Ct.aB n_b (Ct.slice (Ct.aH c.key c.aI) (lv+1))).1 x_b (lv+1) gn else bif x_b.gen != gn then Ct.pD c.aE b m_b (Ct.slice (Ct.aH c.key c.aI) (lv+1)) (λb_b=>bif b_b==0 then(Ct.bO c K N)else Ct.gA c (Ct.aH c.key c.aI) gn (Ct.bO c K N) kf b b_b ((lv+1)+1))else Ct.gA c (Ct.aH c.key c.aI) gn (Ct.bO c K N) kf b (Ct.aB n_b (Ct.slice (Ct.aH c.key c.aI) (lv+1))).1 ((lv+1)+1))else .ret {}) n s (h.fr (.c r0 (.c r1 .n))) (hs.less (by decide))).mono ?_)
 rintro _ w ⟨s2,t3,c4,hq5,rfl,h⟩
 refine⟨_,rfl,trivial,?_⟩
 refine ff (so h rfl rfl rfl fD (eO _) (.r (.r (.r (.r (.r (.r (.r (.r (.r (.r (.r (.r (.r (.r .d)))))))))))))) u2)<|?_
 rintro _ w h
 refine⟨trivial,?_⟩
 refine xz<|nx<|rt<|?_
 refine rr (bP results252 rfl (h.b a2) P5)<|?_
 exact fI (hq5) (h.fr (.c r2 .n)).drop
end
variable{B w:World}{L:List As}
theorem Il(S:dN)(c:Ct.Call)(hk64:c.key.size<=64)(N kf n:Nat)(hst:∀j,j<=n->iR S c (kf+1) N j)(hds:∀j,j<=n->mG S c (kf+1) N kf j)(wb:Nat)(gn pa i lv:Int){m:Nat}(hm:m<=n)(m1:Int)(s:Ct.St)(h:SH B w (bl wb (wU S c gn pa i lv) 102::S.a s::L))(hs:Ct.Rm 60 s)(hl:(kf:Int)+1<=4000000000000000000):
  Calls prog 91 #[↑wb,↑m1] w λe w'=>CP S dW m B ((λr_b=>.node r_b λa_b=>Ct.gA c (Ct.aH c.key c.aI) a_b.gen (Ct.bO c (kf+1) N) (kf+1) 0 r_b 0) m1) s L e w':=by
 have hh64:=Ct.eI c.key c.aI
 refine bZ func91 ntmps91 h λw h=>?_
 refine jA h λb1 w h=>?_
 refine cl (ci (S.sN h a2) rfl rfl) ((cK S s m1 h.to hs).mono ?_)
 rintro _ w ⟨q2,rfl,h⟩
 have ft_q2:=hs.node m1
 have sz_q2:=iO hs
 have nf_q2:=ft_q2.nf (by omega)
 refine⟨_,rfl,?_⟩
 refine go h λw h=>?_
 refine Uc (F:=[bl wb ([S.v,↑c.aE.root,↑c.aE.readOnly,↑c.key,.int .u64 ((Ct.aH c.key c.aI:Nat):Int),.int .u64 (c.value:Int),↑c.bF,.int .u64 (c.expect:Int),.int .i64 (s.node m1).gen,.int .i64 0,↑m1,.int .i64 0]) 102]) [(true,[1,3,5,7,9,11,13,15,17,19]),(false,[20,22])] (by kernel_rfl) h (λw h=>(hC (h.at_ a3) hN)) λw h=>go h λw h=>?_
 refine tk (λW H=>gJ (cs:=[S.v,↑c.aE.root,↑c.aE.readOnly]) rfl (eP (H.b a0) 0 rfl) Row.h)<|go h λw h=>?_
 have h:=h.fr (.c r3 .n)
 have h:=Me (j:=60) (S:=S) (F:=dW) (n:=m) (args:=dQ) (k:=(λm_b=>.node m_b λn_b=>bif n_b.kind==5 then Ct.qW c.aE 0 m1 (Ct.aH c.key c.aI) (0-1) (λ_=>(Ct.bO c (kf+1) N))else bif n_b.kind==6 then Ct.mO c (Ct.bO c (kf+1) N) m1 m_b n_b else bif n_b.kind==3 then(bif !(Ct.aB n_b (Ct.slice (Ct.aH c.key c.aI) 0)).2 then Ct.qY c (Ct.bO c (kf+1) N) (Ct.aH c.key c.aI) m1 m_b n_b (Ct.slice (Ct.aH c.key c.aI) 0)else .node (Ct.aB n_b (Ct.slice (Ct.aH c.key c.aI) 0)).1 λx_b=>bif x_b.kind==4 then Ct.hX c (Ct.bO c (kf+1) N) (Ct.aH c.key c.aI) m1 m_b n_b (Ct.slice (Ct.aH c.key c.aI) 0) (Ct.aB n_b (Ct.slice (Ct.aH c.key c.aI) 0)).1 x_b 0 (s.node m1).gen else bif x_b.gen != (s.node m1).gen then Ct.pD c.aE m1 m_b (Ct.slice (Ct.aH c.key c.aI) 0) (λb_b=>bif b_b==0 then(Ct.bO c (kf+1) N)else Ct.gA c (Ct.aH c.key c.aI) (s.node m1).gen (Ct.bO c (kf+1) N) kf m1 b_b (0+1))else Ct.gA c (Ct.aH c.key c.aI) (s.node m1).gen (Ct.bO c (kf+1) N) kf m1 (Ct.aB n_b (Ct.slice (Ct.aH c.key c.aI) 0)).1 (0+1))else .ret {})) (v:=(.fn 139 [↑wb] [])) [bl wb (wU S c (s.node m1).gen 0 m1 0) 102] h λm' hm' B' w' L' s' x' h' hs'=>pR eF (vL S c hk64 (kf+1) N kf m (λj hj=>hst j (Fk hj hm)) (λj hj=>hds j (Fk hj hm)) wb (s.node m1).gen 0 m1 0 (bI hm') x' s' h' (hs'.less (by decide)) (by omega))
 refine Zs (jZ S dW _ _ (.fn 139 [↑wb] []) (λm_b=>.node m_b λn_b=>bif n_b.kind==5 then Ct.qW c.aE 0 m1 (Ct.aH c.key c.aI) (0-1) (λ_=>(Ct.bO c (kf+1) N))else bif n_b.kind==6 then Ct.mO c (Ct.bO c (kf+1) N) m1 m_b n_b else bif n_b.kind==3 then(bif !(Ct.aB n_b (Ct.slice (Ct.aH c.key c.aI) 0)).2 then Ct.qY c (Ct.bO c (kf+1) N) (Ct.aH c.key c.aI) m1 m_b n_b (Ct.slice (Ct.aH c.key c.aI) 0)else .node (Ct.aB n_b (Ct.slice (Ct.aH c.key c.aI) 0)).1 λx_b=>bif x_b.kind==4 then Ct.hX c (Ct.bO c (kf+1) N) (Ct.aH c.key c.aI) m1 m_b n_b (Ct.slice (Ct.aH c.key c.aI) 0) (Ct.aB n_b (Ct.slice (Ct.aH c.key c.aI) 0)).1 x_b 0 (s.node m1).gen else bif x_b.gen != (s.node m1).gen then Ct.pD c.aE m1 m_b (Ct.slice (Ct.aH c.key c.aI) 0) (λb_b=>bif b_b==0 then(Ct.bO c (kf+1) N)else Ct.gA c (Ct.aH c.key c.aI) (s.node m1).gen (Ct.bO c (kf+1) N) kf m1 b_b (0+1))else Ct.gA c (Ct.aH c.key c.aI) (s.node m1).gen (Ct.bO c (kf+1) N) kf m1 (Ct.aB n_b (Ct.slice (Ct.aH c.key c.aI) 0)).1 (0+1))else .ret {}) _ _ h.to (hs.less (by decide))) λs3 t4 c5 hq6 w h=>?_
 refine rr (bP rfl rfl (h.b a3) Row.h) ?_
 exact fI (qN (hq6)) h.to
theorem Fi(S:dN)(c:Ct.Call)(hk64:c.key.size<=64)(N kf n:Nat)(hst:∀j,j<n->iR S c (kf+1) N j)(hds:∀j,j<n->mG S c (kf+1) N kf j)(wb:Nat)(gn pa i lv:Int)(s:Ct.St)(h:SH B w (bl wb (wU S c gn pa i lv) 102::S.a s::L))(hs:Ct.Rm 30 s)(hl:(kf:Int)+1<=4000000000000000000):
  Calls prog 46 #[↑wb] w λe w'=>CP S dW n B (Ct.bO c (kf+1) (N+1)) s L e w':=by
 have hh64:=Ct.eI c.key c.aI
 refine bZ func46 ntmps46 h λw h=>?_
 refine jA h λb1 w h=>?_
 refine st (gJ (cs:=[S.v,↑c.aE.root,↑c.aE.readOnly]) rfl (eP (h.b a1) 0 rfl) Row.h)<|go h λw h=>?_
 have h:=h.fr (.c r1 .n)
 have h:=Me (j:=60) (S:=S) (F:=dW) (n:=n) (args:=dQ) (k:=(λr_b=>.node r_b λa_b=>Ct.gA c (Ct.aH c.key c.aI) a_b.gen (Ct.bO c (kf+1) N) (kf+1) 0 r_b 0)) (v:=(.fn 91 [↑wb] [])) [bl wb (wU S c gn pa i lv) 102] h λm' hm' B' w' L' s' x' h' hs'=>pR eF (Il S c hk64 N kf m' (λj hj=>hst j (Ab hj hm')) (λj hj=>hds j (Ab hj hm')) wb gn pa i lv (JV _) x' s' h' (hs'.less (by decide)) (by omega))
 refine fQ (zO S dW _ (.fn 91 [↑wb] []) (λr_b=>.node r_b λa_b=>Ct.gA c (Ct.aH c.key c.aI) a_b.gen (Ct.bO c (kf+1) N) (kf+1) 0 r_b 0) _ _ h.to (hs.less (by decide))) λs2 t3 c4 hq5 w h=>?_
 refine rr (bP rfl rfl (h.b a2) Row.h) ?_
 exact fI (hq5) h.to
theorem KC(S:dN)(c:Ct.Call)(hk64:c.key.size<=64)(K:Nat)(hK:(K:Int)+1<=4000000000000000000)(n:Nat):n<=K->(∀N,n<=N->iR S c (K+1) (N+1) n)/\(∀N kf,n<=N->n<=kf->mG S c (K+1) N (kf+1) n):=by
 induction n using Nat.strongRecOn with
 |_ n ih=>
  intro hn
  have hst:∀N,n<=N->∀j,j<n->iR S c (K+1) N j:=λN hN j hj=>by
   obtain⟨N',rfl⟩:∃N',N=N'+1:=⟨N-1,by omega⟩
   exact(ih j hj (by omega)).1 N' (by omega)
  have hds:∀N kf,n<=N->n<=kf->∀j,j<n->mG S c (K+1) N kf j:=λN kf hN hk j hj=>by
   obtain⟨k',rfl⟩:∃k',kf=k'+1:=⟨kf-1,by omega⟩
   exact(ih j hj (by omega)).2 N k' (by omega) (by omega)
  exact⟨λN hN wb gn pa i lv B w L s h hs=>Fi S c hk64 N K n (hst N hN) (hds N K hN hn) wb gn pa i lv s h hs hK,
   λN kf hN hk wb gn pa i lv b B w L s h hs hl=>Fj S c hk64 (K+1) N kf n (hst N hN) (hds N kf hN hk) wb gn pa i lv b s h hs hl⟩
theorem Lv{k:ByteArray}(h:Ct.bU k=true):k.size<=64:=by unfold Ct.bU at h;simpa using h
theorem JZ(c:Ct.Call)(n:Nat):Ct.RN c n=bif !Ct.bU c.key then .ret {err:=1}else bif decide (c.bF<0)then .ret {err:=1}else bif decide (c.bF>3)then .ret {err:=1}else Ct.bO c n n:=by
 unfold Ct.RN;cases Ct.bU c.key<;>cases decide (c.bF<0)<;>rfl
theorem BC(S:dN)(c:Ct.Call)(K N n:Nat)(hst:Ct.bU c.key=true->∀j,j<=n->iR S c K N j)(cb0 cb1 cb2:Nat)(ky:ByteArray)(pol:Int)(wb:Nat)(gn pa i lv:Int){m:Nat}(hm:m<=n)(s:Ct.St)(h:SH B w (rb cb0 ([↑ky]) 9::rb cb1 ([↑pol]) 3::rb cb2 ([↑wb]) 97::bl wb (wU S c gn pa i lv) 102::S.a s::L))(hs:Ct.Rm 60 s)(hke:ky=c.key)(hkz:ky.size<=9223372036854775807):
  Calls prog 43 #[↑cb0,↑cb1,↑cb2] w λe w'=>CP S dW m B ((λ_=>bif !Ct.bU ky then .ret {err:=1}else bif decide (pol<0)then .ret {err:=1}else bif decide (pol>3)then .ret {err:=1}else Ct.bO c K N) ()) s L e w':=by
 refine bZ func43 ntmps43 h λw h=>?_
 refine jA h λb1 w h=>?_
 refine cl (ca eF rfl) ((Ak ky _ (by omega)).mono ?_)
 rintro _ _ ⟨rfl,rfl⟩
 refine⟨_,rfl,?_⟩
 refine st (nt rfl)<|st (mv rfl)<|?_
 refine qg h (λhd2 w h=>?_) λhd2 w h=>?_
 refine bA (gV ({err:=1}:Ct.Result) h.to) λw h=>?_
 refine rc h ?_
 have h:=kD (S:=S) (n:=m) (r:=({err:=1}:Ct.Result)) h
 exact fI (qT hd2 rfl) h.to
 have hd4:=(cW _).mp hd2
 refine qg h (λhd5 w h=>?_) λhd5 w h=>?_
 refine bA (gV ({err:=1}:Ct.Result) h.to) λw h=>?_
 refine rc h ?_
 have h:=kD (S:=S) (n:=m) (r:=({err:=1}:Ct.Result)) h
 exact fI (qF hd2 (qT hd5 rfl)) h.to
 refine qc h (λhd8 w h=>?_) λhd8 w h=>?_
 refine bA (gV ({err:=1}:Ct.Result) h.to) λw h=>?_
 refine rc h ?_
 have h:=kD (S:=S) (n:=m) (r:=({err:=1}:Ct.Result)) h
 exact fI (qF hd2 (qF hd5 (qT hd8 rfl))) h.to
 refine fQ (hst (hke▸hd4) m hm wb gn pa i lv _ _ _ s h.to (hs.less (by decide))) λs11 t12 c13 hq14 w h=>?_
 refine rc h ?_
 exact fI (qF hd2 (qF hd5 (qF hd8 (hq14)))) h.to
theorem Lt(S:dN)(N:Nat)(c:Ct.Call)(s:Ct.St)(h:SH B w (S.a s::L))(hs:Ct.Rm 60 s)(hky:c.key.size<=9223372036854775807)(hmk:c.aI<18446744073709551616)(hNN:N<=3000000000000000000):
  Calls prog 15 #[S.v,.agg [↑c.aE.root,↑c.aE.readOnly].toArray,.int .u64 (c.aI:Int),↑c.key,.int .u64 (c.value:Int),↑c.bF,.int .u64 (c.expect:Int)] w λe w'=>∃tb s' u,((bif !Ct.bU c.key then .ret {err:=1}else bif decide (c.bF<0)then .ret {err:=1}else bif decide (c.bF>3)then .ret {err:=1}else Ct.bO c (N+1) (N+1):Ct.I Ct.Result)).head s=(s',u)/\e=.returned (.pointer (some ⟨tb,0,none⟩))/\SH B w' (eN S N tb u 0::S.a s'::L):=by
 refine bZ func15 ntmps15 h λw h=>?_
 refine jX h λb1 w h=>?_
 refine jX h λb2 w h=>?_
 refine sf (bx h rfl rfl)<|?_
 rintro _ w ⟨b3,rfl,h⟩
 refine st (sg rfl)<|xe<|nx<|?_
 refine sm (λe w=>∃b5:Nat,∃b4:Nat,Sub 31 e (.c 0 (S.v) (.c 10 ↑b2 (.c 12 ↑b3 (.c 15 ↑b5 .n))))/\SH B w (bl b5 ([↑b4]) 97::bl b4 ([S.v,↑c.aE.root,↑c.aE.readOnly,↑c.key,.int .u64 ((Ct.aH c.key c.aI:Nat):Int),.int .u64 (c.value:Int),↑c.bF,.int .u64 (c.expect:Int),.int .i64 0,.int .i64 0,.int .i64 0,.int .i64 0]) 102::bl b3 ([↑c.bF]) 3::bl b2 ([↑c.key]) 9::bl b1 ([↑c.aE.root,↑c.aE.readOnly]) 38::S.a s::L)) ?_ ?_
 refine VS (F:=[bl b1 ([↑c.aE.root,↑c.aE.readOnly]) 38,bl b2 ([↑c.key]) 9,bl b3 ([↑c.bF]) 3]) (.op 0 true (.op 1 true (.op 2 true (.op 3 true (.op 4 true (.op 5 true (.op 7 true (.op 8 true (.op 9 true (.fork 6 12 (.op 10 true (.fork 11 12 (.op 12 false (.op 13 false .stop)) (.op 11 false (.op 13 false .stop)))) (.op 6 false (.op 10 true (.op 11 false (.op 13 false .stop)))))))))))))) (by kernel_rfl) h (λw h=>(hC (h.at_ a2) (hC (h.at_ a1) (hC (h.at_ a0) hN)))) λw h=>go h λw h=>?_
 refine Mg ?_ ?_
 refine cs (ca eF rfl) ((Ba c.key c.aI _ (by omega) (by omega)).mono ?_)
 rintro _ _ ⟨rfl,rfl⟩
 refine⟨_,rfl,(hC (h.at_ a2) (hC (h.at_ a1) (hC (h.at_ a0) hN))),?_⟩
 refine tk (λW H=>bd [S.v,↑c.aE.root,↑c.aE.readOnly,↑c.key,.int .u64 ((Ct.aH c.key c.aI:Nat):Int),.int .u64 (c.value:Int),↑c.bF,.int .u64 (c.expect:Int),.int .i64 0,.int .i64 0,.int .i64 0,.int .i64 0] XK rfl (by kernel_rfl))<|?_
 refine Mg ?_ ?_
 refine jY h λb4 w h=>?_
 refine jB h λb5 w h=>?_
 exact⟨b5,b4,⟨rfl,rfl,rfl,rfl,trivial⟩,h⟩
 refine jB h λb6 w h=>?_
 refine jY h λb7 w h=>?_
 exact⟨b6,b7,⟨rfl,rfl,rfl,rfl,trivial⟩,h.to⟩
 refine jB h λb8 w h=>?_
 refine cs (ca eF rfl) ((Ba c.key c.aI _ (by omega) (by omega)).mono ?_)
 rintro _ _ ⟨rfl,rfl⟩
 refine⟨_,rfl,(hC (h.at_ a3) (hC (h.at_ a2) (hC (h.at_ a1) hN))),?_⟩
 refine tk (λW H=>bd [S.v,↑c.aE.root,↑c.aE.readOnly,↑c.key,.int .u64 ((Ct.aH c.key c.aI:Nat):Int),.int .u64 (c.value:Int),↑c.bF,.int .u64 (c.expect:Int),.int .i64 0,.int .i64 0,.int .i64 0,.int .i64 0] XK rfl (by kernel_rfl))<|?_
 refine jY h λb9 w h=>?_
 exact⟨b8,b9,⟨rfl,rfl,rfl,rfl,trivial⟩,h.to⟩
 rintro e w ⟨b5,b4,hE,h⟩
 refine C.sub hE ?_
 refine go h λw h=>?_
 have hh64:=Ct.eI c.key c.aI
 have h:=SH.kX (h.fr (.c r3 .n))
 have h:=SH.kX (h.fr (.c r3 .n))
 have h:=SH.kX (h.fr (.c r2 .n))
 refine go h λw h=>?_
 have h:=h.eT a0
 have h:=h.eT a2
 have h:=h.eT a4
 have h:=h.fr (.c r0 (.c r0 (.c r0 (.c r3 .n))))
 have h:=YZ (S:=S) (F:=dW) (n:=N) (j:=60) (args:=qI) (k:=(λ_=>bif !Ct.bU c.key then .ret {err:=1}else bif decide (c.bF<0)then .ret {err:=1}else bif decide (c.bF>3)then .ret {err:=1}else Ct.bO c (N+1) (N+1))) (v:=(.fn 43 [] [↑b2,↑b3,↑b5])) [rb b2 ([↑c.key]) 9,rb b3 ([↑c.bF]) 3,rb b5 ([↑b4]) 97,bl b4 (wU S c 0 0 0 0) 102] h λB' w' L' s' x' h' hs'=>pR eF (BC S c (N+1) (N+1) N (λhkv j hj=>(KC S c (Lv hkv) N (by omega) j hj).1 N hj) b2 b3 b5 c.key c.bF b4 0 0 0 0 (JV _) s' h' (hs'.less (by decide)) rfl (by omega))
 refine fQ (Ht S _ (.fn 43 [] [↑b2,↑b3,↑b5]) (λ_=>bif !Ct.bU c.key then .ret {err:=1}else bif decide (c.bF<0)then .ret {err:=1}else bif decide (c.bF>3)then .ret {err:=1}else Ct.bO c (N+1) (N+1)) _ h.to (hs.less (by decide))) λtb10 s11 uz12 hq13 w h=>?_
 exact rz ⟨tb10,s11,uz12,hq13,rfl,h.to⟩
theorem RC(S:dN)(N:Nat)(c:Ct.Call)(s:Ct.St)(h:SH B w (S.a s::L))(hs:Ct.Rm 60 s)(hky:c.key.size<=9223372036854775807)(hmk:c.aI<18446744073709551616)(hNN:N<=3000000000000000000):
  Calls prog 15 #[S.v,.agg #[↑c.aE.root,↑c.aE.readOnly],.int .u64 (c.aI:Int),↑c.key,.int .u64 (c.value:Int),↑c.bF,.int .u64 (c.expect:Int)] w λe w'=>
   ∃tb s' u,(Ct.RN c (N+1)).head s=(s',u)/\e=.returned (.pointer (some ⟨tb,0,none⟩))/\SH B w' (eN S N tb u 0::S.a s'::L):=by
 rw[JZ];exact Lt S N c s h hs hky hmk hNN
end Go.Q9
end
