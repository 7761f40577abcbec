/- Parts of a proof: Dr. -/
import Derived.Test.YtlpbjpanggcbbaaGreatW48
set_option linter.unusedVariables false
set_option linter.unusedSimpArgs false
set_option maxRecDepth 100000
set_option maxHeartbeats 4000000
section
namespace Go.Q9
open Go.Proofs.Tryz
open Go.RowKit Go.E
attribute [local irreducible] gB wpS Go.E.X XS C jU kP fin Y U F Ca jT bl rb aU bV ex ce pu sK gK bK zK gM fO dH gP nE rD
open Go.Ct (qN qA qC qG qT qF)
def tS(S:dN)(c:Ct.Call)(gn:Int)(path:List Int)(pp:Option Addr)(cp:Nat):List Value:=[S.v,↑c.aE.root,↑c.aE.readOnly,↑c.key,.int .u64 ((Ct.aH c.key c.aI:Nat):Int),↑c.only,.int .u64 (c.expect:Int),↑gn,.slice pp path.length cp]
def iI(S:dN)(c:Ct.Call)(K N n:Nat):Prop:=∀(wb:Nat) (gn:Int) (path:List Int) (pp:Option Addr) (cp:Nat) (B w:World) (L:List As) (s:Ct.St),SH B w (bl wb (tS S c gn path pp cp) 138::aU 39 1 (.slice pp path.length cp) path.length (path.map (Value.int .i64))::S.a s::L)->Ct.Rm 30 s->
 Calls prog 65 #[↑wb] w λe w'=>CP S dW n B (Ct.yQ c K N) s L e w'
def nN(S:dN)(c:Ct.Call)(K N kf n:Nat):Prop:=∀(wb:Nat) (gn:Int) (path:List Int) (pp:Option Addr) (cp:Nat) (lv:Nat) (b:Int) (B w:World) (L:List As) (s:Ct.St),SH B w (bl wb (tS S c gn path pp cp) 138::aU 39 1 (.slice pp path.length cp) path.length (path.map (Value.int .i64))::S.a s::L)->Ct.Rm 30 s->path.length=lv->lv+kf<=10000000000000->
 Calls prog 157 #[.pointer (some ⟨wb,0,none⟩),.int .i64 b] w λe w'=>CP S dW n B (Ct.pM c (Ct.aH c.key c.aI) gn (Ct.yQ c K N) kf (path++[b]) b lv) s L e w'
def P4(S:dN)(c:Ct.Call)(lq:Nat):Prop:=∀(n:Nat) (wb:Nat) (gn:Int) (path:List Int) (pp:Option Addr) (cp:Nat) (v:Nat) (B w:World) (L:List As) (s:Ct.St),SH B w (bl wb (tS S c gn path pp cp) 138::aU 39 1 (.slice pp path.length cp) path.length (path.map (Value.int .i64))::S.a s::L)->Ct.Rm 30 s->lq<path.length->path.length<=4000000000000000001->
 Calls prog 304 #[↑wb,↑(lq:Int),.int .u64 (v:Int)] w λe w'=>CP S dW n B (Ct.n9 c path (Ct.aH c.key c.aI) v lq) s L e w'
theorem T0(path:List Int)(b:Int):path.length+1=(path++[b]).length:=by rw[tW];rfl
theorem SZ(path:List Int)(b:Int):(path++[b]).getD path.length 0=b:=by simp
variable{B w:World}{L:List As}
theorem Vc(S:dN)(c:Ct.Call)(wb:Nat)(gn:Int)(path:List Int)(pp:Option Addr)(cp:Nat)(v:Nat)(h:SH B w (bl wb (tS S c gn path pp cp) 138::L)):
  Calls prog 286 #[↑wb,.int .u64 (v:Int)] w λe w'=>e=.returned (.bool (Ct.Qj c v))/\SH B w' (bl wb (tS S c gn path pp cp) 138::L):=by
 refine bZ func286 ntmps286 h λw h=>?_
 refine qg h (λhd1 w h=>?_) λhd1 w h=>?_
 ·have hd2:c.only=false:=(xE _).mp hd1
  refine go h λw h=>?_
  refine rz ?_
  refine⟨?_,h⟩
  simp_all [Ct.Qj,Ac]
 ·have hd3:c.only=true:=(cW _).mp hd1
  refine go h λw h=>?_
  refine rz ?_
  refine⟨?_,h⟩
  simp_all [Ct.Qj,Ac]
theorem kN(S:dN)(n:Nat)(s:Ct.St)(h:SH B w (S.a s::L))(_hs:Ct.Rm 30 s):
  Calls prog 262 #[] w λe w'=>CP S dW n B ((.ret {}:Ct.I Ct.Result)) s L e w':=by
 refine bZ func262 ntmps262 h λw h=>?_
 refine jA h λb1 w h=>?_
 refine bA (gV ({}:Ct.Result) h.to) λw h=>?_
 refine rr (bP rfl rfl (h.b a0) Row.h) ?_
 have h:=kD (S:=S) (n:=n) (r:=({}:Ct.Result)) h
 exact fI (rfl) h.to
theorem lG(S:dN)(v:Nat)(ct0:Int)(n:Nat)(s:Ct.St)(h:SH B w (S.a s::L))(_hs:Ct.Rm 30 s):
  Calls prog 287 #[.int .u64 (v:Int),↑ct0] w λe w'=>CP S dW n B ((.ret {found:=true,value:=v,count:=ct0}:Ct.I Ct.Result)) s L e w':=by
 refine bZ func287 ntmps287 h λw h=>?_
 refine jA h λb1 w h=>?_
 refine bA (gV ({found:=true,value:=v,count:=ct0}:Ct.Result) h.to) λw h=>?_
 refine rr (bP rfl rfl (h.b a0) Row.h) ?_
 have h:=kD (S:=S) (n:=n) (r:=({found:=true,value:=v,count:=ct0}:Ct.Result)) h
 exact fI (rfl) h.to
theorem MU(S:dN)(c:Ct.Call)(lq n:Nat)(hup:P4 S c lq)(cb0 cb1 cb2:Nat)(v:Nat)(wb:Nat)(gn:Int)(path:List Int)(pp:Option Addr)(cp:Nat){m:Nat}(hm:m<=n)(ok:Bool)(s:Ct.St)(h:SH B w (rb cb0 ([↑wb]) 136::rb cb1 ([.int .i64 ((lq+1:Nat):Int)]) 3::rb cb2 ([.int .u64 (v:Int)]) 30::bl wb (tS S c gn path pp cp) 138::aU 39 1 (.slice pp path.length cp) path.length (path.map (Value.int .i64))::S.a s::L))(hs:Ct.Rm 40 s)(hlp:lq+1<path.length)(hpb:path.length<=4000000000000000001):
  Calls prog 308 #[↑ok,↑cb0,↑cb1,↑cb2] w λe w'=>CP S dW m B ((λ_=>Ct.n9 c path (Ct.aH c.key c.aI) v lq) ok) s L e w':=by
 refine bZ func308 ntmps308 h λw h=>?_
 refine jA h λb1 w h=>?_
 refine st (bs (lq:Int))<|go h λw h=>?_
 refine fQ (hup m wb gn path pp cp v _ _ _ s h.to (hs.less (by decide)) (by omega) (by omega)) λs2 t3 c4 hq5 w h=>?_
 refine rr (bP rfl rfl (h.b a2) Row.h) ?_
 exact fI (hq5) h.to
theorem SK(S:dN)(c:Ct.Call)(lq n:Nat)(hup:P4 S c lq)(cb0 cb1 cb2:Nat)(v:Nat)(wb:Nat)(gn:Int)(path:List Int)(pp:Option Addr)(cp:Nat){m:Nat}(hm:m<=n)(m1:Int)(s:Ct.St)(h:SH B w (rb cb0 ([↑wb]) 136::rb cb1 ([.int .u64 (v:Int)]) 30::rb cb2 ([.int .i64 ((lq+1:Nat):Int)]) 3::bl wb (tS S c gn path pp cp) 138::aU 39 1 (.slice pp path.length cp) path.length (path.map (Value.int .i64))::S.a s::L))(hs:Ct.Rm 60 s)(hlp:lq+1<path.length)(hpb:path.length<=4000000000000000001):
  Calls prog 307 #[↑m1,↑cb0,↑cb1,↑cb2] w λe w'=>CP S dW m B ((λm_b=>.node m_b λn_b=>bif n_b.kind != 5 then .ret (Ct.dL true v)else Ct.qW c.aE (path.getD lq 0) (path.getD (lq+1) 0) (Ct.aH c.key c.aI) (lq:Int) λ_=>Ct.n9 c path (Ct.aH c.key c.aI) v lq) m1) s L e w':=by
 have hh64:=Ct.eI c.key c.aI
 refine bZ func307 ntmps307 h λw h=>?_
 refine jA h λb1 w h=>?_
 refine cl (ci (S.sN h a6) rfl rfl) ((cK S s m1 h.to hs).mono ?_)
 rintro _ w ⟨q2,rfl,h⟩
 have ft_q2:=hs.node m1
 have sz_q2:=iO hs
 have nf_q2:=ft_q2.nf (by omega)
 refine⟨_,rfl,?_⟩
 refine go h λw h=>?_
 refine qc h (λhd3 w h=>?_) λhd3 w h=>?_
 have hg4:=bne_iff_ne.1 hd3
 refine go h λw h=>?_
 refine fQ (lG S v 1 m s h.to (hs.less (by decide))) λs5 t6 c7 hq8 w h=>?_
 refine rr (bP rfl rfl (h.b a3) Row.h) ?_
 exact fI (qN (qT hd3 (hq8))) h.to
 have hg9:=eS hd3
 refine go h λw h=>?_
 obtain⟨b10,rfl⟩:=h.fp a7 (by omega)
 refine Uc (F:=[rb cb0 ([↑wb]) 136,bl wb (tS S c gn path (some ⟨b10,0,none⟩) cp) 138,rb cb2 ([.int .i64 ((lq+1:Nat):Int)]) 3,aU 39 1 (.slice (some ⟨b10,0,none⟩) path.length cp) path.length (path.map (Value.int .i64))]) [(true,[1,3,5,7,9,11,13,15,17,19,21,23,25,27,29,31,33,35,37,39,41,43,45,47,49,51]),(false,[52,54])] (by kernel_rfl) h (λw h=>(hC (h.at_ a3) (hC (h.at_ a6) (hC (h.at_ a5) (hC (h.at_ a7) hN))))) λw h=>go h λw h=>?_
 refine tk (λW H=>gJ (cs:=[S.v,↑c.aE.root,↑c.aE.readOnly]) rfl (eP (H.b a1) 0 rfl) Row.h)<|go h λw h=>?_
 refine tk (λW H=>bs (lq:Int))<|go h λw h=>?_
 refine go h λw h=>?_
 refine tk (λW H=>bs (lq:Int))<|go h λw h=>?_
 have h:=h.eT a4
 have h:=h.eT a6
 have h:=h.eT a5
 have h:=h.fr (.c r0 (.c r0 (.c r0 (.c r6 (.c r6 .n)))))
 have h:=Me (j:=50) (S:=S) (F:=dW) (n:=m) (args:=dV) (k:=(λ_=>Ct.n9 c path (Ct.aH c.key c.aI) v lq)) (v:=(.fn 308 [] [↑cb0,↑cb2,↑cb1])) [rb cb0 ([↑wb]) 136,rb cb2 ([.int .i64 ((lq+1:Nat):Int)]) 3,rb cb1 ([.int .u64 (v:Int)]) 30,bl wb (tS S c gn path (some ⟨b10,0,none⟩) cp) 138,aU 39 1 (.slice (some ⟨b10,0,none⟩) path.length cp) path.length (path.map (Value.int .i64))] h λm' hm' B' w' L' s' x' h' hs'=>pR eF (MU S c lq m hup cb0 cb2 cb1 v wb gn path (some ⟨b10,0,none⟩) cp (bI hm') x' s' h' (hs'.less (by decide)) (by omega) (by omega))
 refine Zs (Yd S dW _ _ _ _ _ (.fn 308 [] [↑cb0,↑cb2,↑cb1]) (λ_=>Ct.n9 c path (Ct.aH c.key c.aI) v lq) _ _ h.to (hs.less (by decide)) hh64) λs11 t12 c13 hq14 w h=>?_
 refine rr (bP rfl rfl (h.b a3) Row.h) ?_
 exact fI (qN (qF hd3 (hq14))) h.to
theorem WY(S:dN)(c:Ct.Call)(lq n:Nat)(hup:P4 S c lq)(wb:Nat)(gn:Int)(path:List Int)(pp:Option Addr)(cp:Nat)(v:Nat)(s:Ct.St)(h:SH B w (bl wb (tS S c gn path pp cp) 138::aU 39 1 (.slice pp path.length cp) path.length (path.map (Value.int .i64))::S.a s::L))(hs:Ct.Rm 30 s)(hlp:lq+1<path.length)(hpb:path.length<=4000000000000000001):
  Calls prog 304 #[↑wb,.int .i64 ((lq+1:Nat):Int),.int .u64 (v:Int)] w λe w'=>CP S dW n B (Ct.n9 c path (Ct.aH c.key c.aI) v (lq+1)) s L e w':=by
 refine bZ func304 ntmps304 h λw h=>?_
 refine jX h λb1 w h=>?_
 refine jX h λb2 w h=>?_
 refine jX h λb3 w h=>?_
 refine jA h λb4 w h=>?_
 have h:=SH.kX (h.fr (.c r3 .n))
 have h:=SH.kX (h.fr (.c r2 .n))
 have h:=SH.kX (h.fr (.c r3 .n))
 obtain⟨b5,rfl⟩:=h.fp a5 (by omega)
 refine Uc (F:=[rb b1 ([↑wb]) 136,bl wb (tS S c gn path (some ⟨b5,0,none⟩) cp) 138,rb b2 ([.int .i64 ((lq+1:Nat):Int)]) 3,aU 39 1 (.slice (some ⟨b5,0,none⟩) path.length cp) path.length (path.map (Value.int .i64))]) [(true,[1,3,5,7,9,11,13,15,17,19,21,23]),(false,[24,26])] (by kernel_rfl) h (λw h=>(hC (h.at_ a2) (hC (h.at_ a4) (hC (h.at_ a0) (hC (h.at_ a5) hN))))) λw h=>go h λw h=>?_
 refine tk (λW H=>gJ (cs:=[S.v,↑c.aE.root,↑c.aE.readOnly]) rfl (eP (H.b a1) 0 rfl) Row.h)<|go h λw h=>?_
 refine go h λw h=>?_
 have h:=h.eT a0
 have h:=h.eT a2
 have h:=h.eT a4
 have h:=h.fr (.c r0 (.c r0 (.c r0 (.c r4 (.c r4 .n)))))
 have h:=Me (j:=60) (S:=S) (F:=dW) (n:=n) (args:=dQ) (k:=(λm_b=>.node m_b λn_b=>bif n_b.kind != 5 then .ret (Ct.dL true v)else Ct.qW c.aE (path.getD lq 0) (path.getD (lq+1) 0) (Ct.aH c.key c.aI) (lq:Int) λ_=>Ct.n9 c path (Ct.aH c.key c.aI) v lq)) (v:=(.fn 307 [] [↑b1,↑b3,↑b2])) [rb b1 ([↑wb]) 136,rb b3 ([.int .u64 (v:Int)]) 30,rb b2 ([.int .i64 ((lq+1:Nat):Int)]) 3,bl wb (tS S c gn path (some ⟨b5,0,none⟩) cp) 138,aU 39 1 (.slice (some ⟨b5,0,none⟩) path.length cp) path.length (path.map (Value.int .i64))] h λm' hm' B' w' L' s' x' h' hs'=>pR eF (SK S c lq m' hup b1 b3 b2 v wb gn path (some ⟨b5,0,none⟩) cp (JV _) x' s' h' (hs'.less (by decide)) (by omega) (by omega))
 refine Zs (jZ S dW _ _ (.fn 307 [] [↑b1,↑b3,↑b2]) (λm_b=>.node m_b λn_b=>bif n_b.kind != 5 then .ret (Ct.dL true v)else Ct.qW c.aE (path.getD lq 0) (path.getD (lq+1) 0) (Ct.aH c.key c.aI) (lq:Int) λ_=>Ct.n9 c path (Ct.aH c.key c.aI) v lq) _ _ h.to (hs.less (by decide))) λs6 t7 c8 hq9 w h=>?_
 refine rr (bP rfl rfl (h.b a5) Row.h) ?_
 exact fI (hq9) h.to
theorem TW(S:dN)(c:Ct.Call)(wb:Nat)(gn:Int)(path:List Int)(pp:Option Addr)(cp:Nat)(v:Nat)(n:Nat)(s:Ct.St)(h:SH B w (bl wb (tS S c gn path pp cp) 138::aU 39 1 (.slice pp path.length cp) path.length (path.map (Value.int .i64))::S.a s::L))(hs:Ct.Rm 30 s):
  Calls prog 304 #[↑wb,.int .i64 ((0:Nat):Int),.int .u64 (v:Int)] w λe w'=>CP S dW n B (Ct.n9 c path (Ct.aH c.key c.aI) v 0) s L e w':=by
 refine bZ func304 ntmps304 h λw h=>?_
 refine jX h λb1 w h=>?_
 refine jX h λb2 w h=>?_
 refine jX h λb3 w h=>?_
 refine jA h λb4 w h=>?_
 refine fQ (lG S v 1 n s h.to (hs.less (by decide))) λs5 t6 c7 hq8 w h=>?_
 refine rr (bP rfl rfl (h.b a2) Row.h) ?_
 exact fI (hq8) h.to
theorem LH(S:dN)(c:Ct.Call):∀lq,P4 S c lq
 |0=>λn wb gn path pp cp v B w L s h hs hl hb=>TW S c wb gn path pp cp v n s h hs
 |lq+1=>λn wb gn path pp cp v B w L s h hs hl hb=>WY S c lq n (LH S c lq) wb gn path pp cp v s h hs hl hb
theorem Zv(S:dN)(c:Ct.Call)(K N kf lv n:Nat)(hst:∀j,j<=n->iI S c K N j)(hds:∀j,j<=n->nN S c K N kf j)(cb0 cb1:Nat)(v:Nat)(wb:Nat)(gn:Int)(path:List Int)(pp:Option Addr)(cp:Nat){m:Nat}(hm:m<=n)(ok:Bool)(s:Ct.St)(h:SH B w (rb cb0 ([↑wb]) 136::rb cb1 ([.int .u64 (v:Int)]) 30::bl wb (tS S c gn path pp cp) 138::aU 39 1 (.slice pp path.length cp) path.length (path.map (Value.int .i64))::S.a s::L))(hs:Ct.Rm 40 s)(hlv:path.length=lv+1)(hl:lv+1+kf<=10000000000000):
  Calls prog 303 #[↑ok,↑cb0,↑cb1] w λe w'=>CP S dW m B ((λok_b=>bif !ok_b then(Ct.yQ c K N)else Ct.n9 c path (Ct.aH c.key c.aI) v (path.length-1)) ok) s L e w':=by
 refine bZ func303 ntmps303 h λw h=>?_
 refine jA h λb1 w h=>?_
 refine qc h (λhd2 w h=>?_) λhd2 w h=>?_
 have hd3:ok=false:=(xE _).mp hd2
 refine go h λw h=>?_
 refine fQ (hst m hm wb gn path pp cp _ _ _ s h.to (hs.less (by decide))) λs4 t5 c6 hq7 w h=>?_
 refine rr (bP rfl rfl (h.b a2) Row.h) ?_
 exact fI (qT hd2 (hq7)) h.to
 have hd8:ok=true:=(cW _).mp hd2
 refine go h λw h=>?_
 refine Uc (F:=[rb cb0 ([↑wb]) 136,bl wb (tS S c gn path pp cp) 138,rb cb1 ([.int .u64 (v:Int)]) 30]) [(true,[1,3,5,7,9,11,13,15]),(false,[16,18])] (by kernel_rfl) h (λw h=>(hC (h.at_ a1) (hC (h.at_ a3) (hC (h.at_ a2) hN)))) λw h=>go h λw h=>?_
 refine tk (λW H=>bs ((path.length-1:Nat):Int))<|go h λw h=>?_
 refine Zs (LH S c (path.length-1) m wb gn path pp cp v _ _ _ s h.to (hs.less (by decide)) (by omega) (by omega)) λs9 t10 c11 hq12 w h=>?_
 refine rr (bP rfl rfl (h.b a2) Row.h) ?_
 exact fI (qF hd2 (hq12)) h.to
theorem vV(S:dN)(c:Ct.Call)(K N kf lv n:Nat)(hst:∀j,j<=n->iI S c K N j)(hds:∀j,j<=n->nN S c K N kf j)(wb:Nat)(gn:Int)(path:List Int)(pp:Option Addr)(cp:Nat)(m1:Int)(nd:Ct.Node)(qnd:Lq)(v:Nat)(s:Ct.St)(h:SH B w (bl wb (tS S c gn path pp cp) 138::aU 39 1 (.slice pp path.length cp) path.length (path.map (Value.int .i64))::aM nd qnd::S.a s::L))(hs:Ct.Rm 33 s)(hlv:path.length=lv+1)(hl:lv+1+kf<=10000000000000)(ft_nd:Ct.Node.Fit (s.aG.length+1) nd):
  Calls prog 289 #[↑wb,↑m1,.agg (aL nd qnd).toArray,.int .u64 (v:Int)] w λe w'=>CP S dW n B (Ct.wM c (Ct.yQ c K N) path (Ct.aH c.key c.aI) (path.getD lv 0) m1 nd v) s L e w':=by
 have sz_nd:=iO hs
 have nf_nd:=ft_nd.nf (by omega)
 refine bZ func289 ntmps289 h λw h=>?_
 refine jX h λb1 w h=>?_
 refine jX h λb2 w h=>?_
 refine jX h λb3 w h=>?_
 refine jA h λb4 w h=>?_
 obtain⟨b5,rfl⟩:=h.fp a5 (by omega)
 refine dZ [1,3,5,7,9,11,13,15,17,19,21,23,24] (by kernel_rfl) h (.c r3 (.c r3 (.c r3 .n))) λw h=>go h λw h=>?_
 refine tk (λW H=>bs (lv:Int))<|go h λw h=>?_
 have h:=SH.kX (h.fr (.c r3 .n))
 have h:=SH.kX (h.fr (.c r2 .n))
 refine Uc (F:=[rb b1 ([↑wb]) 136,bl wb (tS S c gn path (some ⟨b5,0,none⟩) cp) 138,bl b2 (aL nd qnd) 90]) [(true,[1,3,5,7,9,11,13,15,17,19,21,23,25,29,26]),(false,[30,32])] (by kernel_rfl) h (λw h=>(hC (h.at_ a1) (hC (h.at_ a4) (hC (h.at_ a3) hN)))) λw h=>go h λw h=>?_
 refine tk (λW H=>gJ (cs:=[S.v,↑c.aE.root,↑c.aE.readOnly]) rfl (eP (H.b a1) 0 rfl) Row.h)<|go h λw h=>?_
 refine cs (ci (S.sA h a7) rfl rfl) ((cQ S s nd qnd m1 h.to hs (ft_nd.mono (by first|omega|(simp only[cY];omega)))).mono ?_)
 rintro _ w ⟨rfl,h⟩
 have hs:=hs.alloc (ft_nd.mono (by first|omega|(simp only[cY];omega))) m1
 refine⟨_,rfl,(hC (h.at_ a2) (hC (h.at_ a5) (hC (h.at_ a4) hN))),?_⟩
 refine go h λw h=>?_
 have h:=h.eT a1
 have h:=h.eT a3
 have h:=h.fr (.c r0 (.c r0 (.c r5 (.c r5 .n))))
 have h:=Me (j:=60) (S:=S) (F:=dW) (n:=n) (args:=dV) (k:=(λok_b=>bif !ok_b then(Ct.yQ c K N)else Ct.n9 c path (Ct.aH c.key c.aI) v (path.length-1))) (v:=(.fn 303 [] [↑b1,↑b3])) [rb b1 ([↑wb]) 136,rb b3 ([.int .u64 (v:Int)]) 30,bl wb (tS S c gn path (some ⟨b5,0,none⟩) cp) 138,aU 39 1 (.slice (some ⟨b5,0,none⟩) path.length cp) path.length (path.map (Value.int .i64))] h λm' hm' B' w' L' s' x' h' hs'=>pR eF (Zv S c K N kf lv m' (λj hj=>hst j (Fk hj (bI hm'))) (λj hj=>hds j (Fk hj (bI hm'))) b1 b3 v wb gn path (some ⟨b5,0,none⟩) cp (JV _) x' s' h' (hs'.less (by decide)) hlv (by omega))
 refine Zs (xY S dW _ _ _ _ (.fn 303 [] [↑b1,↑b3]) (λok_b=>bif !ok_b then(Ct.yQ c K N)else Ct.n9 c path (Ct.aH c.key c.aI) v (path.length-1)) _ _ h.to (hs.less (by decide))) λs6 t7 c8 hq9 w h=>?_
 refine rr (bP rfl rfl (h.b a4) Row.h) ?_
 exact fI (qA (hq9)) h.to
theorem BP(S:dN)(c:Ct.Call)(K N kf lv n:Nat)(hst:∀j,j<=n->iI S c K N j)(hds:∀j,j<=n->nN S c K N kf j)(wb:Nat)(gn:Int)(path:List Int)(pp:Option Addr)(cp:Nat)(m1:Int)(nd:Ct.Node)(qnd:Lq)(s:Ct.St)(h:SH B w (bl wb (tS S c gn path pp cp) 138::aU 39 1 (.slice pp path.length cp) path.length (path.map (Value.int .i64))::aM nd qnd::S.a s::L))(hs:Ct.Rm 40 s)(hlv:path.length=lv+1)(hl:lv+1+kf<=10000000000000)(hk6:nd.kind=6)(ft_nd:Ct.Node.Fit s.aG.length nd):
  Calls prog 260 #[↑wb,↑m1,.agg (aL nd qnd).toArray] w λe w'=>CP S dW n B (Ct.Cq c (Ct.yQ c K N) path (Ct.aH c.key c.aI) (path.getD lv 0) m1 nd) s L e w':=by
 have sz_nd:=iO hs
 have nf_nd:=ft_nd.nf (by omega)
 refine bZ func260 ntmps260 h λw h=>?_
 refine jX h λb1 w h=>?_
 refine sf (al h Hd)<|?_
 rintro _ w ⟨b2,rfl,h⟩
 refine xe<|nx<|?_
 refine sm (λe w=>Sub 47 e (.c 0 ↑wb (.c 1 ↑m1 (.c 5 ↑b1 (.c 6 ↑b2 (.c 7 (.int .u64 (((Ct.bB nd.aF c.key).1:Nat):Int)) (.c 8 (.bool (Ct.bB nd.aF c.key).2) .n))))))/\SH B w (bl b2 ([.int .i64 0,.int .i64 0,.int .i64 0,.int .i64 0,.nilFunc,.nilFunc,.int .i64 0,↑false,.int .u64 0,.string .empty,.int .i64 0,.int .i64 0,.int .i64 0,↑false]) 107::bl b1 (aL nd qnd) 90::bl wb (tS S c gn path pp cp) 138::aU 39 1 (.slice pp path.length cp) path.length (path.map (Value.int .i64))::aM nd qnd::S.a s::L)) ?_ ?_
 have h:=SH.Gs h a4
 have h:=SH.se (l:=[aY nd qnd,cH nd qnd]) h
 have hpv:=(Ct.fJ (nf_nd.v6 hk6)).kG hk6
 have hpn:=ft_nd.1.2.1
 refine dZ [1,3,5,7,9,11,12,15,17,19,20,22] (by kernel_rfl) h (.c r3 (.c r3 .n)) λw h=>go h λw h=>?_
 refine gO (Hp _ _ _ _ h.to hpv (by omega)) λw h=>?_
 exact⟨⟨rfl,rfl,rfl,rfl,rfl,rfl,trivial⟩,h.drop.drop⟩
 rintro e w ⟨hE,h⟩
 refine C.sub hE ?_
 clear hE e
 refine go h λw h=>?_
 refine qc h (λhd3 w h=>?_) λhd3 w h=>?_
 have hd4:(Ct.bB nd.aF c.key).2=false:=(xE _).mp hd3
 refine go h λw h=>?_
 refine fQ (kN S n s h.to (hs.less (by decide))) λs5 t6 c7 hq8 w h=>?_
 refine rr (bP rfl rfl (h.b a2) Row.h) ?_
 exact fI (qT hd3 (hq8)) h.to
 have hd9:(Ct.bB nd.aF c.key).2=true:=(cW _).mp hd3
 refine go h λw h=>?_
 refine bA (Vc S c _ _ _ _ _ _ h.to) λw h=>?_
 rcases CG (!(Ct.Qj c (Ct.bB nd.aF c.key).1))with hd10|hd10
 have hd11:(Ct.Qj c (Ct.bB nd.aF c.key).1)=false:=(xE _).mp hd10
 refine go h λw h=>?_
 refine fQ (lG S (Ct.bB nd.aF c.key).1 0 n s h.to (hs.less (by decide))) λs12 t13 c14 hq15 w h=>?_
 refine rr (bP rfl rfl (h.b a3) Row.h) ?_
 exact fI (qF hd3 (qT hd10 (hq15))) h.to
 have hd16:(Ct.Qj c (Ct.bB nd.aF c.key).1)=true:=(cW _).mp hd10
 refine cf rfl hd10<|sk<|nx<|?_
 refine sm (λe w=>∃b18:Nat,∃q17:Lq,Sub 47 e (.c 0 ↑wb (.c 1 ↑m1 (.c 6 ↑b2 (.c 7 (.int .u64 (((Ct.bB nd.aF c.key).1:Nat):Int)) (.c 9 ↑b18 (.c 10 (.bool (Ct.gC nd c.key).2) .n))))))/\SH B w (bl b18 (aL (Ct.gC nd c.key).1 q17) 90::aM (Ct.gC nd c.key).1 q17::aM nd qnd::bl wb (tS S c gn path pp cp) 138::bl b2 ([.int .i64 0,.int .i64 0,.int .i64 0,.int .i64 0,.nilFunc,.nilFunc,.int .i64 0,↑false,.int .u64 0,.string .empty,.int .i64 0,.int .i64 0,.int .i64 0,↑false]) 107::bl b1 (aL nd qnd) 90::aU 39 1 (.slice pp path.length cp) path.length (path.map (Value.int .i64))::S.a s::L)) ?_ ?_
 refine XL (F:=[bl b1 (aL nd qnd) 90,bl wb (tS S c gn path pp cp) 138]) [1,3,5,7,9] 5 9 [13,15,17,18,20,22] [10,13,15,17,20,22] (by kernel_rfl) h (λw h=>(hC (h.at_ a2) (hC (h.at_ a0) hN))) λw h=>go h λw h=>?_
 refine YJ ?_ ?_
 refine lH (Kr _ _ _ _ _ _ h.to nf_nd (by have:=ft_nd.1.2.1;omega) (by unfold Ct.Node.Kx;rw[hk6,nf_nd.v6 hk6];rfl)) λq17 w h=>?_
 refine jB h λb18 w h=>?_
 exact⟨b18,q17,⟨rfl,rfl,rfl,rfl,rfl,rfl,trivial⟩,h⟩
 refine jB h λb19 w h=>?_
 refine lH (Kr _ _ _ _ _ _ h.to nf_nd (by have:=ft_nd.1.2.1;omega) (by unfold Ct.Node.Kx;rw[hk6,nf_nd.v6 hk6];rfl)) λq20 w h=>?_
 exact⟨b19,q20,⟨rfl,rfl,rfl,rfl,rfl,rfl,trivial⟩,h.to⟩
 rintro e w ⟨b18,q17,hE,h⟩
 refine C.sub hE ?_
 clear hE e
 refine go h λw h=>?_
 refine qc h (λhd21 w h=>?_) λhd21 w h=>?_
 have hd22:(Ct.gC nd c.key).2=false:=(xE _).mp hd21
 refine go h λw h=>?_
 refine fQ (kN S n s h.to (hs.less (by decide))) λs23 t24 c25 hq26 w h=>?_
 refine rr (bP rfl rfl (h.b a6) Row.h) ?_
 exact fI (qF hd3 (qF hd10 (qT hd21 (hq26)))) h.to
 have hd27:(Ct.gC nd c.key).2=true:=(cW _).mp hd21
 refine go h λw h=>?_
 refine fQ (vV S c _ _ _ _ _ hst hds _ _ _ _ _ _ _ _ _ _ h.to (hs.less (by decide)) hlv (by omega) (Ct.pH (ft_nd.mono (by first|omega|(simp only[cY];omega))) c.key)) λs28 t29 c30 hq31 w h=>?_
 refine rr (bP rfl rfl (h.b a4) Row.h) ?_
 exact fI (qF hd3 (qF hd10 (qF hd21 (hq31)))) h.to
theorem BK(S:dN)(c:Ct.Call)(lv:Nat)(wb:Nat)(gn:Int)(path:List Int)(pp:Option Addr)(cp:Nat)(nd:Ct.Node)(qnd:Lq)(ix:Int)(s:Ct.St)(h:SH B w (bl wb (tS S c gn path pp cp) 138::aM nd qnd::S.a s::L))(hs:Ct.Rm 5 s)(ft_nd:Ct.Node.Fit s.aG.length nd):
  Calls prog 290 #[↑wb,.agg (aL nd qnd).toArray,↑ix,↑(lv:Int)] w λe w'=>∃x' q',(∀{β:Type} (k:Ct.Node->Ct.I β),(bif (Ct.fF (Ct.bL nd ix).1).2 then .node (Ct.fF (Ct.bL nd ix).1).1 λq=>k (Ct.bQ (Ct.bL nd ix).1 (lv:Int) q)else k (Ct.bQ (Ct.bL nd ix).1 (lv:Int) {})).head s=(k x').head s)/\x'.Fit (s.aG.length+1)/\e=.returned (.agg (aL x' q').toArray)/\SH B w' (aM x' q'::bl wb (tS S c gn path pp cp) 138::S.a s::L):=by
 have sz_nd:=iO hs
 have nf_nd:=ft_nd.nf (by omega)
 refine bZ func290 ntmps290 h λw h=>?_
 refine jX h λb1 w h=>?_
 refine sf (al h Ur)<|?_
 rintro _ w ⟨b2,rfl,h⟩
 refine xe<|nx<|?_
 refine sm (λe w=>∃b4:Nat,∃q3:Lq,Sub 38 e (.c 0 ↑wb (.c 3 ↑(lv:Int) (.c 8 ↑b2 (.c 9 ↑b4 .n))))/\SH B w (bl b4 (aL (Ct.bL nd ix).1 q3) 90::aM (Ct.bL nd ix).1 q3::aM nd qnd::bl b2 ([.int .i64 0,.int .i64 0,.int .i64 0,.int .u64 0,.slice none 0 0,.int .u64 0,.string .empty,.int .u64 0,.slice none 0 0,.int .i64 0,.int .i64 0,.int .i64 0,.int .i64 0,.int .i64 0]) 90::bl b1 (aL nd qnd) 90::bl wb (tS S c gn path pp cp) 138::S.a s::L)) ?_ ?_
 refine go h λw h=>?_
 refine cG (CV nd qnd ix h.to nf_nd) λq3 w h=>?_
 refine jA h λb4 w h=>?_
 exact⟨b4,q3,⟨rfl,rfl,rfl,rfl,trivial⟩,h⟩
 rintro e w ⟨b4,q3,hE,h⟩
 refine C.sub hE ?_
 clear hE e
 refine go h λw h=>?_
 refine sf (al h Ur)<|?_
 rintro _ w ⟨b5,rfl,h⟩
 refine sf (so h rfl rfl rfl vA rfl (.r (.r (.r (.r (.r (.r (.r (.r (.r (.r (.r (.r (.r (.r .d)))))))))))))) u0)<|?_
 rintro _ w h
 refine xe<|nx<|sq<|?_
 refine sm (λe w=>Sub 38 e (.c 0 ↑wb (.c 3 ↑(lv:Int) (.c 8 ↑b2 (.c 9 ↑b4 (.c 11 ↑b5 (.c 12 (.int .i64 (Ct.fF (Ct.bL nd ix).1).1) (.c 13 (.bool (Ct.fF (Ct.bL nd ix).1).2) .n)))))))/\SH B w (aM (Ct.bL nd ix).1 q3::bl b5 ([.int .i64 0,.int .i64 0,.int .i64 0,.int .u64 0,.slice none 0 0,.int .u64 0,.string .empty,.int .u64 0,.slice none 0 0,.int .i64 0,.int .i64 0,.int .i64 0,.int .i64 0,.int .i64 0]) 90::bl b4 (aL (Ct.bL nd ix).1 q3) 90::aM nd qnd::bl b2 ([.int .i64 0,.int .i64 0,.int .i64 0,.int .u64 0,.slice none 0 0,.int .u64 0,.string .empty,.int .u64 0,.slice none 0 0,.int .i64 0,.int .i64 0,.int .i64 0,.int .i64 0,.int .i64 0]) 90::bl b1 (aL nd qnd) 90::bl wb (tS S c gn path pp cp) 138::S.a s::L)) ?_ ?_
 refine go h λw h=>?_
 refine bA (IH (Ct.bL nd ix).1 q3.pb q3.cb q3.pp q3.cp h.to (Ct.Node.Fit.nf (L:=800000000000) (Ct.eW (ft_nd.mono (by omega)) ix) (by omega))) λw h=>?_
 exact⟨⟨rfl,rfl,rfl,rfl,rfl,rfl,rfl,trivial⟩,h⟩
 rintro e w ⟨hE,h⟩
 refine C.sub hE ?_
 clear hE e
 refine go h λw h=>?_
 refine qc h (λhd6 w h=>?_) λhd6 w h=>?_
 refine cl (ci (S.sN h a7) rfl rfl) ((cK S s (Ct.fF (Ct.bL nd ix).1).1 h.to hs).mono ?_)
 rintro _ w ⟨q7,rfl,h⟩
 have ft_q7:=hs.node (Ct.fF (Ct.bL nd ix).1).1
 have sz_q7:=iO hs
 have nf_q7:=ft_q7.nf (by omega)
 refine⟨_,rfl,?_⟩
 refine go h λw h=>?_
 refine cG (Fq (Ct.bL nd ix).1 q3 (lv:Int) (s.node (Ct.fF (Ct.bL nd ix).1).1) q7 h.to (Ct.Node.Fit.nf (L:=800000000000) (Ct.eW (ft_nd.mono (by omega)) ix) (by omega)) (by have:=((Ct.eW (ft_nd.mono (by omega)) ix):Ct.Node.Fit 100000000001 _);exact Fk this.1.2.1 (by omega))) λq8 w h=>?_
 refine rr (bP rfl rfl (h.b a7) Row.h) ?_
 refine⟨(Ct.bQ (Ct.bL nd ix).1 (lv:Int) (s.node (Ct.fF (Ct.bL nd ix).1).1)),q8,λ{β} k=>?_,(Ct.fA (Ct.eW (ft_nd.mono (by first|omega|(simp only[cY];omega))) ix) (ft_q7.mono (by first|omega|(simp only[cY];omega))) (lv:Int)),rfl,(h.to.fr (.c r0 (.c r1 (.c r0 .n))))⟩
 rw[hd6];rfl
 have h:=SH.eE ({}:Ct.Node) rfl rfl h
 refine go h λw h=>?_
 refine cG (Fq (Ct.bL nd ix).1 q3 (lv:Int) ({}:Ct.Node) {} h.to (Ct.Node.Fit.nf (L:=800000000000) (Ct.eW (ft_nd.mono (by omega)) ix) (by omega)) (by have:=((Ct.eW (ft_nd.mono (by omega)) ix):Ct.Node.Fit 100000000001 _);exact Fk this.1.2.1 (by omega))) λq9 w h=>?_
 refine rr (bP rfl rfl (h.b a6) Row.h) ?_
 refine⟨(Ct.bQ (Ct.bL nd ix).1 (lv:Int) ({}:Ct.Node)),q9,λ{β} k=>?_,(Ct.fA (Ct.eW (ft_nd.mono (by first|omega|(simp only[cY];omega))) ix) (Ct.nT _) (lv:Int)),rfl,h.to⟩
 rw[hd6];rfl
theorem Co(S:dN)(c:Ct.Call)(K N kf lv n:Nat)(hst:∀j,j<=n->iI S c K N j)(hds:∀j,j<=n->nN S c K N kf j)(wb:Nat)(gn:Int)(path:List Int)(pp:Option Addr)(cp:Nat){m:Nat}(hm:m<=n)(ok:Bool)(s:Ct.St)(h:SH B w (bl wb (tS S c gn path pp cp) 138::aU 39 1 (.slice pp path.length cp) path.length (path.map (Value.int .i64))::S.a s::L))(hs:Ct.Rm 40 s)(hlv:path.length=lv+1)(hl:lv+1+kf<=10000000000000):
  Calls prog 259 #[↑wb,↑ok] w λe w'=>CP S dW m B ((λ_=>(Ct.yQ c K N)) ok) s L e w':=by
 refine bZ func259 ntmps259 h λw h=>?_
 refine jA h λb1 w h=>?_
 refine fQ (hst m hm wb gn path pp cp _ _ _ s h.to (hs.less (by decide))) λs2 t3 c4 hq5 w h=>?_
 refine rr (bP rfl rfl (h.b a2) Row.h) ?_
 exact fI (hq5) h.to
theorem Lb(S:dN)(c:Ct.Call)(K N kf lv n:Nat)(hst:∀j,j<=n->iI S c K N j)(hds:∀j,j<=n->nN S c K N kf j)(wb:Nat)(gn:Int)(path:List Int)(pp:Option Addr)(cp:Nat){m:Nat}(hm:m<=n)(m1:Int)(s:Ct.St)(h:SH B w (bl wb (tS S c gn path pp cp) 138::aU 39 1 (.slice pp path.length cp) path.length (path.map (Value.int .i64))::S.a s::L))(hs:Ct.Rm 40 s)(hlv:path.length=lv+1)(hl:lv+1+kf<=10000000000000):
  Calls prog 291 #[.pointer (some ⟨wb,0,none⟩),.int .i64 m1] w λe w'=>CP S dW m B ((λb_b=>bif b_b==0 then(Ct.yQ c K N)else Ct.pM c (Ct.aH c.key c.aI) gn (Ct.yQ c K N) kf (path++[b_b]) b_b (lv+1)) m1) s L e w':=by
 refine bZ func291 ntmps291 h λw h=>?_
 refine jA h λb1 w h=>?_
 refine qc h (λhd2 w h=>?_) λhd2 w h=>?_
 have hg3:=eq_of_beq hd2
 refine go h λw h=>?_
 refine fQ (hst m hm wb gn path pp cp _ _ _ s h.to (hs.less (by decide))) λs4 t5 c6 hq7 w h=>?_
 refine rr (bP rfl rfl (h.b a2) Row.h) ?_
 exact fI (qT hd2 (hq7)) h.to
 have hg8:=eC hd2
 refine go h λw h=>?_
 refine fQ (hds m hm wb gn path pp cp (lv+1) m1 _ _ _ s h.to (hs.less (by decide)) hlv (by omega)) λs9 t10 c11 hq12 w h=>?_
 refine rr (bP rfl rfl (h.b a2) Row.h) ?_
 exact fI (qF hd2 (hq12)) h.to
theorem Zm(S:dN)(c:Ct.Call)(K N kf lv n:Nat)(hst:∀j,j<=n->iI S c K N j)(hds:∀j,j<=n->nN S c K N kf j)(wb:Nat)(gn:Int)(path:List Int)(pp:Option Addr)(cp:Nat)(m1:Int)(nd:Ct.Node)(qnd:Lq)(s:Ct.St)(h:SH B w (bl wb (tS S c gn path pp cp) 138::aU 39 1 (.slice pp path.length cp) path.length (path.map (Value.int .i64))::aM nd qnd::S.a s::L))(hs:Ct.Rm 60 s)(hlv:path.length=lv+1)(hl:lv+1+kf<=10000000000000)(ft_nd:Ct.Node.Fit s.aG.length nd):
  Calls prog 261 #[.pointer (some ⟨wb,0,none⟩),.int .i64 m1,.agg (aL nd qnd).toArray] w λe w'=>CP S dW n B (bif !(Ct.aB nd (Ct.slice (Ct.aH c.key c.aI) (lv:Int))).2 then .ret {}else .node (Ct.aB nd (Ct.slice (Ct.aH c.key c.aI) (lv:Int))).1 λx=>bif x.kind==4 then Ct.Pp c (Ct.yQ c K N) path (Ct.aH c.key c.aI) (path.getD lv 0) m1 nd lv x else bif x.gen != gn then Ct.pD c.aE (path.getD lv 0) m1 (Ct.slice (Ct.aH c.key c.aI) (lv:Int)) (λb=>bif b==0 then(Ct.yQ c K N)else Ct.pM c (Ct.aH c.key c.aI) gn (Ct.yQ c K N) kf (path++[b]) b (lv+1))else Ct.pM c (Ct.aH c.key c.aI) gn (Ct.yQ c K N) kf (path++[(Ct.aB nd (Ct.slice (Ct.aH c.key c.aI) (lv:Int))).1]) (Ct.aB nd (Ct.slice (Ct.aH c.key c.aI) (lv:Int))).1 (lv+1)) s L e w':=by
 have hh64:=Ct.eI c.key c.aI
 have sz_nd:=iO hs
 have nf_nd:=ft_nd.nf (by omega)
 refine bZ func261 ntmps261 h λw h=>?_
 refine jX h λb1 w h=>?_
 refine jA h λb2 w h=>?_
 refine st (bs (lv:Int))<|go h λw h=>?_
 refine cl (ca eF rfl) ((nB (Ct.aH c.key c.aI) (lv:Int) _ (by omega)).mono ?_)
 rintro _ _ ⟨rfl,rfl⟩
 refine⟨_,rfl,?_⟩
 refine st (sg rfl)<|xe<|nx<|sq<|rg<|st (gJ rfl (dK (h.b a1)) fK)<|st (mv rfl)<|?_
 refine go h λw h=>?_
 refine bA (pX _ _ _ _ _ _ h.to nf_nd) λw h=>?_
 refine qc h (λhd3 w h=>?_) λhd3 w h=>?_
 have hd4:(Ct.aB nd (Ct.slice (Ct.aH c.key c.aI) (lv:Int))).2=false:=(xE _).mp hd3
 refine go h λw h=>?_
 refine fQ (kN S n s h.to (hs.less (by decide))) λs5 t6 c7 hq8 w h=>?_
 refine rr (bP rfl rfl (h.b a3) Row.h) ?_
 exact fI (qT hd3 (hq8)) h.to
 have hd9:(Ct.aB nd (Ct.slice (Ct.aH c.key c.aI) (lv:Int))).2=true:=(cW _).mp hd3
 refine go h λw h=>?_
 refine cl (ci (S.sN h a5) rfl rfl) ((cK S s (Ct.aB nd (Ct.slice (Ct.aH c.key c.aI) (lv:Int))).1 h.to hs).mono ?_)
 rintro _ w ⟨q10,rfl,h⟩
 have ft_q10:=hs.node (Ct.aB nd (Ct.slice (Ct.aH c.key c.aI) (lv:Int))).1
 have sz_q10:=iO hs
 have nf_q10:=ft_q10.nf (by omega)
 refine⟨_,rfl,?_⟩
 refine jA h λb11 w h=>?_
 refine qc h (λhd12 w h=>?_) λhd12 w h=>?_
 have hg13:=eq_of_beq hd12
 refine go h λw h=>?_
 refine dZ [1,3,5,7,9,11,13] (by kernel_rfl) h (.c r0 (.c r5 .n)) λw h=>go h λw h=>?_
 refine qc h (λhd14 w h=>?_) λhd14 w h=>?_
 refine fQ (kN S n s h.to (hs.less (by decide))) λs15 t16 c17 hq18 w h=>?_
 refine rr (bP rfl rfl (h.b a5) Row.h) ?_
 exact fI (qF hd3 (qN (qT hd12 (qT hd14 (hq18))))) h.to
 refine bA (Vc S c _ _ _ _ _ _ h.to) λw h=>?_
 refine qc h (λhd19 w h=>?_) λhd19 w h=>?_
 have hd20:(Ct.Qj c (s.node (Ct.aB nd (Ct.slice (Ct.aH c.key c.aI) (lv:Int))).1).value)=false:=(xE _).mp hd19
 refine go h λw h=>?_
 refine fQ (lG S (s.node (Ct.aB nd (Ct.slice (Ct.aH c.key c.aI) (lv:Int))).1).value 0 n s h.to (hs.less (by decide))) λs21 t22 c23 hq24 w h=>?_
 refine rr (bP rfl rfl (h.b a6) Row.h) ?_
 exact fI (qF hd3 (qN (qT hd12 (qF hd14 (qT hd19 (hq24)))))) h.to
 have hd25:(Ct.Qj c (s.node (Ct.aB nd (Ct.slice (Ct.aH c.key c.aI) (lv:Int))).1).value)=true:=(cW _).mp hd19
 refine go h λw h=>?_
 refine dZ [1,3,5,7,9,11,15,17,12,18,20] (by kernel_rfl) h (.c r6 (.c r1 .n)) λw h=>go h λw h=>?_
 refine cs (ca eF rfl) ((BK S c lv wb gn path pp cp nd qnd (Ct.slice (Ct.aH c.key c.aI) (lv:Int)) s (h.fr (.c r0 (.c r3 (.c r2 .n)))) (hs.less (by decide)) (ft_nd.mono (by first|omega|(simp only[cY];omega)))).mono ?_)
 rintro _ w ⟨xw26,q27,hw28,hf29,rfl,h⟩
 refine⟨_,rfl,h.hs (.c r6 (.c r3 .n)),?_⟩
 refine go h λw h=>?_
 refine Zs (vV S c _ _ _ _ _ hst hds _ _ _ _ _ _ _ _ _ _ h.to (hs.less (by decide)) hlv (by omega) hf29) λs30 t31 c32 hq33 w h=>?_
 refine rr (bP rfl rfl (h.b a4) Row.h) ?_
 exact fI (qF hd3 (qN (qT hd12 (qF hd14 (qF hd19 ((hw28 (λx_b=>Ct.wM c (Ct.yQ c K N) path (Ct.aH c.key c.aI) (path.getD lv 0) m1 x_b (s.node (Ct.aB nd (Ct.slice (Ct.aH c.key c.aI) (lv:Int))).1).value)).trans (hq33))))))) h.to
 have hg34:=eC hd12
 refine go h λw h=>?_
 refine dZ [1,3,5,7,9,11,13] (by kernel_rfl) h (.c r0 (.c r5 .n)) λw h=>go h λw h=>?_
 refine qc h (λhd35 w h=>?_) λhd35 w h=>?_
 have hg36:=bne_iff_ne.1 hd35
 refine go h λw h=>?_
 obtain⟨b37,rfl⟩:=h.fp a7 (by omega)
 refine Uc (F:=[bl wb (tS S c gn path (some ⟨b37,0,none⟩) cp) 138,aU 39 1 (.slice (some ⟨b37,0,none⟩) path.length cp) path.length (path.map (Value.int .i64))]) [(true,[1,3,5,7,9,11,13,15,17,19,21,23,25,27,29]),(false,[30,32])] (by kernel_rfl) h (λw h=>(hC (h.at_ a6) (hC (h.at_ a7) hN))) λw h=>go h λw h=>?_
 refine tk (λW H=>gJ (cs:=[S.v,↑c.aE.root,↑c.aE.readOnly]) rfl (eP (H.b a0) 0 rfl) Row.h)<|go h λw h=>?_
 have h:=h.fr (.c r6 (.c r6 .n))
 have h:=YZ (S:=S) (F:=dW) (n:=n) (j:=40) (args:=dQ) (k:=(λb_b=>bif b_b==0 then(Ct.yQ c K N)else Ct.pM c (Ct.aH c.key c.aI) gn (Ct.yQ c K N) kf (path++[b_b]) b_b (lv+1))) (v:=(.fn 291 [.pointer (some ⟨wb,0,none⟩)] [])) [bl wb (tS S c gn path (some ⟨b37,0,none⟩) cp) 138,aU 39 1 (.slice (some ⟨b37,0,none⟩) path.length cp) path.length (path.map (Value.int .i64))] h λB' w' L' s' x' h' hs'=>pR eF (Lb S c K N kf lv n hst hds wb gn path (some ⟨b37,0,none⟩) cp (JV _) x' s' h' (hs'.less (by decide)) hlv (by omega))
 refine Zs (Wr S dW _ _ _ _ (.fn 291 [.pointer (some ⟨wb,0,none⟩)] []) (λb_b=>bif b_b==0 then(Ct.yQ c K N)else Ct.pM c (Ct.aH c.key c.aI) gn (Ct.yQ c K N) kf (path++[b_b]) b_b (lv+1)) _ _ h.to (hs.less (by decide))) λs38 t39 c40 hq41 w h=>?_
 refine rr (bP rfl rfl (h.b a5) Row.h) ?_
 exact fI (qF hd3 (qN (qF hd12 (qT hd35 (hq41))))) h.to
 have hg42:=eS hd35
 refine go h λw h=>?_
 refine fQ (hds n (JV _) wb gn path pp cp (lv+1) (Ct.aB nd (Ct.slice (Ct.aH c.key c.aI) (lv:Int))).1 _ _ _ s h.to (hs.less (by decide)) hlv (by omega)) λs43 t44 c45 hq46 w h=>?_
 refine rr (bP rfl rfl (h.b a5) Row.h) ?_
 exact fI (qF hd3 (qN (qF hd12 (qF hd35 (hq46))))) h.to
theorem AG(S:dN)(c:Ct.Call)(K N kf lv n:Nat)(hst:∀j,j<=n->iI S c K N j)(hds:∀j,j<=n->nN S c K N kf j)(wb:Nat)(gn:Int)(path:List Int)(pp:Option Addr)(cp:Nat){m:Nat}(hm:m<=n)(m1:Int)(s:Ct.St)(h:SH B w (bl wb (tS S c gn path pp cp) 138::aU 39 1 (.slice pp path.length cp) path.length (path.map (Value.int .i64))::S.a s::L))(hs:Ct.Rm 60 s)(hlv:path.length=lv+1)(hl:lv+1+kf<=10000000000000):
  Calls prog 213 #[.pointer (some ⟨wb,0,none⟩),.int .i64 m1] w λe w'=>CP S dW m B ((λm_b=>.node m_b λn_b=>bif n_b.kind==5 then Ct.qW c.aE (bif decide (0<lv)then path.getD (lv-1) 0 else 0) (path.getD lv 0) (Ct.aH c.key c.aI) ((lv:Int)-1) (λ_=>(Ct.yQ c K N))else bif n_b.kind==6 then Ct.Cq c (Ct.yQ c K N) path (Ct.aH c.key c.aI) (path.getD lv 0) m_b n_b else bif n_b.kind==3 then(bif !(Ct.aB n_b (Ct.slice (Ct.aH c.key c.aI) (lv:Int))).2 then .ret {}else .node (Ct.aB n_b (Ct.slice (Ct.aH c.key c.aI) (lv:Int))).1 λx_b=>bif x_b.kind==4 then Ct.Pp c (Ct.yQ c K N) path (Ct.aH c.key c.aI) (path.getD lv 0) m_b n_b lv x_b else bif x_b.gen != gn then Ct.pD c.aE (path.getD lv 0) m_b (Ct.slice (Ct.aH c.key c.aI) (lv:Int)) (λb_b=>bif b_b==0 then(Ct.yQ c K N)else Ct.pM c (Ct.aH c.key c.aI) gn (Ct.yQ c K N) kf (path++[b_b]) b_b (lv+1))else Ct.pM c (Ct.aH c.key c.aI) gn (Ct.yQ c K N) kf (path++[(Ct.aB n_b (Ct.slice (Ct.aH c.key c.aI) (lv:Int))).1]) (Ct.aB n_b (Ct.slice (Ct.aH c.key c.aI) (lv:Int))).1 (lv+1))else .ret {}) m1) s L e w':=by
 have hh64:=Ct.eI c.key c.aI
 generalize hpar:(bif decide (0<lv)then path.getD (lv-1) 0 else 0)=par
 refine bZ func213 ntmps213 h λw h=>?_
 refine jA h λb1 w h=>?_
 refine cl (ci (S.sN h a3) rfl rfl) ((cK S s m1 h.to hs).mono ?_)
 rintro _ w ⟨q2,rfl,h⟩
 have ft_q2:=hs.node m1
 have sz_q2:=iO hs
 have nf_q2:=ft_q2.nf (by omega)
 refine⟨_,rfl,?_⟩
 refine jA h λb3 w h=>?_
 refine qc h (λhd4 w h=>?_) λhd4 w h=>?_
 have hg5:=eq_of_beq hd4
 refine go h λw h=>?_
 refine st (bs (lv:Int))<|go h λw h=>?_
 refine qc h (λhd6 w h=>?_) λhd6 w h=>?_
 have hg7:=Qa hd6
 have hp0:decide (0<lv)=true:=zT (by have:=Qa hd6;omega)
 rw[hp0]at hpar
 subst hpar
 refine go h λw h=>?_
 refine st (bs ((lv-1:Nat):Int))<|go h λw h=>?_
 obtain⟨b8,rfl⟩:=h.fp a5 (by omega)
 refine go h λw h=>?_
 refine Uc (F:=[bl wb (tS S c gn path (some ⟨b8,0,none⟩) cp) 138,aU 39 1 (.slice (some ⟨b8,0,none⟩) path.length cp) path.length (path.map (Value.int .i64))]) [(true,[1,3,5,7,9,11,13,15,17,19,21,23,25,27,29,31,33,35,37,39]),(false,[40,42])] (by kernel_rfl) h (λw h=>(hC (h.at_ a4) (hC (h.at_ a5) hN))) λw h=>go h λw h=>?_
 refine tk (λW H=>gJ (cs:=[S.v,↑c.aE.root,↑c.aE.readOnly]) rfl (eP (H.b a0) 0 rfl) Row.h)<|go h λw h=>?_
 refine tk (λW H=>bs ((lv:Int)-1))<|go h λw h=>?_
 have h:=h.fr (.c r4 (.c r4 .n))
 have h:=Me (j:=50) (S:=S) (F:=dW) (n:=m) (args:=dV) (k:=(λ_=>(Ct.yQ c K N))) (v:=(.fn 259 [↑wb] [])) [bl wb (tS S c gn path (some ⟨b8,0,none⟩) cp) 138,aU 39 1 (.slice (some ⟨b8,0,none⟩) path.length cp) path.length (path.map (Value.int .i64))] h λm' hm' B' w' L' s' x' h' hs'=>pR eF (Co S c K N kf lv m (λj hj=>hst j (Fk hj hm)) (λj hj=>hds j (Fk hj hm)) wb gn path (some ⟨b8,0,none⟩) cp (bI hm') x' s' h' (hs'.less (by decide)) hlv (by omega))
 refine Zs (Yd S dW _ _ _ _ _ (.fn 259 [↑wb] []) (λ_=>(Ct.yQ c K N)) _ _ h.to (hs.less (by decide)) hh64) λs9 t10 c11 hq12 w h=>?_
 refine rr (bP rfl rfl (h.b a4) Row.h) ?_
 exact fI (qN (qT hd4 (hq12))) h.to
 have hg13:=zG hd6
 have hp0:decide (0<lv)=false:=mI (by have:=zG hd6;omega)
 rw[hp0]at hpar
 subst hpar
 refine go h λw h=>?_
 obtain⟨b14,rfl⟩:=h.fp a5 (by omega)
 refine Uc (F:=[bl wb (tS S c gn path (some ⟨b14,0,none⟩) cp) 138,aU 39 1 (.slice (some ⟨b14,0,none⟩) path.length cp) path.length (path.map (Value.int .i64))]) [(true,[1,3,5,7,9,11,13,15,17,19,21,23,25,27,29,31,33,35,37,39]),(false,[40,42])] (by kernel_rfl) h (λw h=>(hC (h.at_ a4) (hC (h.at_ a5) hN))) λw h=>go h λw h=>?_
 refine tk (λW H=>gJ (cs:=[S.v,↑c.aE.root,↑c.aE.readOnly]) rfl (eP (H.b a0) 0 rfl) Row.h)<|go h λw h=>?_
 refine tk (λW H=>bs ((lv:Int)-1))<|go h λw h=>?_
 have h:=h.fr (.c r4 (.c r4 .n))
 have h:=Me (j:=50) (S:=S) (F:=dW) (n:=m) (args:=dV) (k:=(λ_=>(Ct.yQ c K N))) (v:=(.fn 259 [↑wb] [])) [bl wb (tS S c gn path (some ⟨b14,0,none⟩) cp) 138,aU 39 1 (.slice (some ⟨b14,0,none⟩) path.length cp) path.length (path.map (Value.int .i64))] h λm' hm' B' w' L' s' x' h' hs'=>pR eF (Co S c K N kf lv m (λj hj=>hst j (Fk hj hm)) (λj hj=>hds j (Fk hj hm)) wb gn path (some ⟨b14,0,none⟩) cp (bI hm') x' s' h' (hs'.less (by decide)) hlv (by omega))
 refine Zs (Yd S dW _ _ _ _ _ (.fn 259 [↑wb] []) (λ_=>(Ct.yQ c K N)) _ _ h.to (hs.less (by decide)) hh64) λs15 t16 c17 hq18 w h=>?_
 refine rr (bP rfl rfl (h.b a4) Row.h) ?_
 exact fI (qN (qT hd4 (hq18))) h.to
 have hg19:=eC hd4
 refine go h λw h=>?_
 refine qc h (λhd20 w h=>?_) λhd20 w h=>?_
 have hg21:=eq_of_beq hd20
 refine go h λw h=>?_
 refine fQ (BP S c _ _ _ _ _ (λj hj=>hst j (Fk hj hm)) (λj hj=>hds j (Fk hj hm)) _ _ _ _ _ _ _ _ _ h.to (hs.less (by decide)) hlv (by omega) (by have:=eq_of_beq hd20;omega) (ft_q2.mono (by first|omega|(simp only[cY];omega)))) λs22 t23 c24 hq25 w h=>?_
 refine rr (bP rfl rfl (h.b a3) Row.h) ?_
 exact fI (qN (qF hd4 (qT hd20 (hq25)))) h.to
 have hg26:=eC hd20
 refine go h λw h=>?_
 refine qc h (λhd27 w h=>?_) λhd27 w h=>?_
 have hg28:=eq_of_beq hd27
 refine go h λw h=>?_
 refine fQ (Zm S c _ _ _ _ _ (λj hj=>hst j (Fk hj hm)) (λj hj=>hds j (Fk hj hm)) _ _ _ _ _ _ _ _ _ h.to (hs.less (by decide)) hlv (by omega) (ft_q2.mono (by first|omega|(simp only[cY];omega)))) λs29 t30 c31 hq32 w h=>?_
 refine rr (bP rfl rfl (h.b a3) Row.h) ?_
 exact fI (qN (qF hd4 (qF hd20 (qT hd27 (hq32))))) h.to
 have hg33:=eC hd27
 refine go h λw h=>?_
 refine fQ (kN S m s h.to (hs.less (by decide))) λs34 t35 c36 hq37 w h=>?_
 refine rr (bP rfl rfl (h.b a4) Row.h) ?_
 exact fI (qN (qF hd4 (qF hd20 (qF hd27 (hq37))))) h.to
theorem Xv(S:dN)(c:Ct.Call)(K N kf lv n:Nat)(hst:∀j,j<n->iI S c K N j)(hds:∀j,j<n->nN S c K N kf j)(wb:Nat)(gn:Int)(path:List Int)(pp:Option Addr)(cp:Nat)(b:Int)(s:Ct.St)(h:SH B w (bl wb (tS S c gn path pp cp) 138::aU 39 1 (.slice pp path.length cp) path.length (path.map (Value.int .i64))::S.a s::L))(hs:Ct.Rm 30 s)(hlv0:path.length=lv)(hl:lv+(kf+1)<=10000000000000):
  Calls prog 157 #[.pointer (some ⟨wb,0,none⟩),.int .i64 b] w λe w'=>CP S dW n B (Ct.pM c (Ct.aH c.key c.aI) gn (Ct.yQ c K N) (kf+1) (path++[b]) b lv) s L e w':=by
 have hgd:(path++[b]).getD lv 0=b:=by rw[<- hlv0];exact SZ path b
 have hlv1:(path++[b]).length=lv+1:=by rw[tW,hlv0];rfl
 refine bZ func157 ntmps157 h λw h=>?_
 refine jA h λb1 w h=>?_
 refine sf (bu [↑b] h fR.h Ss.h rfl (by kernel_rfl) rfl (by decide) (by decide)) ?_
 rintro _ w ⟨b2,rfl,h⟩
 refine go h λw h=>?_
 refine sf (ap h fR.h rfl Ss.h rfl (by decide) rfl rfl (λ_=>u3) (h.ro a0) (by simp[Value.oneCell']) (T0 path b) (fL _ _) (by simp only[tW,sX];unfold maxLen;omega) (by simp only[tW,sX];omega)) ?_
 rintro _ w ⟨p3,c4,rfl,h⟩
 refine go h λw h=>?_
 refine st (gJ (cs:=[S.v,↑c.aE.root,↑c.aE.readOnly]) rfl (eP (h.b a2) 0 rfl) Row.h)<|go h λw h=>?_
 have h:=h.fr (.c r2 (.c r2 .n))
 have h:=Me (j:=60) (S:=S) (F:=dW) (n:=n) (args:=dQ) (k:=(λm_b=>.node m_b λn_b=>bif n_b.kind==5 then Ct.qW c.aE (bif decide (0<lv)then(path++[b]).getD (lv-1) 0 else 0) ((path++[b]).getD lv 0) (Ct.aH c.key c.aI) ((lv:Int)-1) (λ_=>(Ct.yQ c K N))else bif n_b.kind==6 then Ct.Cq c (Ct.yQ c K N) (path++[b]) (Ct.aH c.key c.aI) ((path++[b]).getD lv 0) m_b n_b else bif n_b.kind==3 then(bif !(Ct.aB n_b (Ct.slice (Ct.aH c.key c.aI) (lv:Int))).2 then .ret {}else .node (Ct.aB n_b (Ct.slice (Ct.aH c.key c.aI) (lv:Int))).1 λx_b=>bif x_b.kind==4 then Ct.Pp c (Ct.yQ c K N) (path++[b]) (Ct.aH c.key c.aI) ((path++[b]).getD lv 0) m_b n_b lv x_b else bif x_b.gen != gn then Ct.pD c.aE ((path++[b]).getD lv 0) m_b (Ct.slice (Ct.aH c.key c.aI) (lv:Int)) (λb_b=>bif b_b==0 then(Ct.yQ c K N)else Ct.pM c (Ct.aH c.key c.aI) gn (Ct.yQ c K N) kf ((path++[b])++[b_b]) b_b (lv+1))else Ct.pM c (Ct.aH c.key c.aI) gn (Ct.yQ c K N) kf ((path++[b])++[(Ct.aB n_b (Ct.slice (Ct.aH c.key c.aI) (lv:Int))).1]) (Ct.aB n_b (Ct.slice (Ct.aH c.key c.aI) (lv:Int))).1 (lv+1))else .ret {})) (v:=(.fn 213 [.pointer (some ⟨wb,0,none⟩)] [])) [bl wb (tS S c gn (path++[b]) p3 c4) 138,aU 39 1 (.slice p3 (path++[b]).length c4) (path++[b]).length ((path++[b]).map (Value.int .i64))] h λm' hm' B' w' L' s' x' h' hs'=>pR eF (AG S c K N kf lv m' (λj hj=>hst j (Ab hj hm')) (λj hj=>hds j (Ab hj hm')) wb gn (path++[b]) p3 c4 (JV _) x' s' h' (hs'.less (by decide)) hlv1 (by omega))
 refine fQ (jZ S dW _ _ (.fn 213 [.pointer (some ⟨wb,0,none⟩)] []) (λm_b=>.node m_b λn_b=>bif n_b.kind==5 then Ct.qW c.aE (bif decide (0<lv)then(path++[b]).getD (lv-1) 0 else 0) ((path++[b]).getD lv 0) (Ct.aH c.key c.aI) ((lv:Int)-1) (λ_=>(Ct.yQ c K N))else bif n_b.kind==6 then Ct.Cq c (Ct.yQ c K N) (path++[b]) (Ct.aH c.key c.aI) ((path++[b]).getD lv 0) m_b n_b else bif n_b.kind==3 then(bif !(Ct.aB n_b (Ct.slice (Ct.aH c.key c.aI) (lv:Int))).2 then .ret {}else .node (Ct.aB n_b (Ct.slice (Ct.aH c.key c.aI) (lv:Int))).1 λx_b=>bif x_b.kind==4 then Ct.Pp c (Ct.yQ c K N) (path++[b]) (Ct.aH c.key c.aI) ((path++[b]).getD lv 0) m_b n_b lv x_b else bif x_b.gen != gn then Ct.pD c.aE ((path++[b]).getD lv 0) m_b (Ct.slice (Ct.aH c.key c.aI) (lv:Int)) (λb_b=>bif b_b==0 then(Ct.yQ c K N)else Ct.pM c (Ct.aH c.key c.aI) gn (Ct.yQ c K N) kf ((path++[b])++[b_b]) b_b (lv+1))else Ct.pM c (Ct.aH c.key c.aI) gn (Ct.yQ c K N) kf ((path++[b])++[(Ct.aB n_b (Ct.slice (Ct.aH c.key c.aI) (lv:Int))).1]) (Ct.aB n_b (Ct.slice (Ct.aH c.key c.aI) (lv:Int))).1 (lv+1))else .ret {}) _ _ h.to (hs.less (by decide))) λs5 t6 c7 hq8 w h=>?_
 refine rr (bP rfl rfl (h.b a3) Row.h) ?_
 rw[hgd]at hq8
 exact fI (hq8) h.to
theorem Vo(S:dN)(c:Ct.Call)(K N n:Nat)(hst:∀j,j<=n->iI S c K N j)(hds:∀j,j<=n->nN S c K N K j)(wb:Nat)(gn:Int)(path:List Int)(pp:Option Addr)(cp:Nat){m:Nat}(hm:m<=n)(m1:Int)(s:Ct.St)(h:SH B w (bl wb (tS S c gn path pp cp) 138::aU 39 1 (.slice pp path.length cp) path.length (path.map (Value.int .i64))::S.a s::L))(hs:Ct.Rm 60 s)(hl:K<=10000000000000):
  Calls prog 112 #[↑wb,↑m1] w λe w'=>CP S dW m B ((λr_b=>.node r_b λa_b=>Ct.pM c (Ct.aH c.key c.aI) a_b.gen (Ct.yQ c K N) K [r_b] r_b 0) m1) s L e w':=by
 refine bZ func112 ntmps112 h λw h=>?_
 refine jA h λb1 w h=>?_
 refine cl (ci (S.sN h a3) rfl rfl) ((cK S s m1 h.to hs).mono ?_)
 rintro _ w ⟨q2,rfl,h⟩
 have ft_q2:=hs.node m1
 have sz_q2:=iO hs
 have nf_q2:=ft_q2.nf (by omega)
 refine⟨_,rfl,?_⟩
 refine go h λw h=>?_
 have h:=SH.nil 39 1 h
 refine go h λw h=>?_
 refine fQ (hds m hm wb (s.node m1).gen [] none 0 0 m1 _ _ _ s h.to (hs.less (by decide)) rfl (by omega)) λs3 t4 c5 hq6 w h=>?_
 refine rr (bP rfl rfl (h.b a3) Row.h) ?_
 exact fI (qN (hq6)) h.to
theorem Vj(S:dN)(c:Ct.Call)(K N n:Nat)(hst:∀j,j<n->iI S c K N j)(hds:∀j,j<n->nN S c K N K j)(wb:Nat)(gn:Int)(path:List Int)(pp:Option Addr)(cp:Nat)(s:Ct.St)(h:SH B w (bl wb (tS S c gn path pp cp) 138::aU 39 1 (.slice pp path.length cp) path.length (path.map (Value.int .i64))::S.a s::L))(hs:Ct.Rm 30 s)(hl:K<=10000000000000):
  Calls prog 65 #[↑wb] w λe w'=>CP S dW n B (Ct.yQ c K (N+1)) s L e w':=by
 refine bZ func65 ntmps65 h λw h=>?_
 refine jA h λb1 w h=>?_
 refine st (gJ (cs:=[S.v,↑c.aE.root,↑c.aE.readOnly]) rfl (eP (h.b a1) 0 rfl) Row.h)<|go h λw h=>?_
 have h:=h.fr (.c r1 (.c r1 .n))
 have h:=Me (j:=60) (S:=S) (F:=dW) (n:=n) (args:=dQ) (k:=(λr_b=>.node r_b λa_b=>Ct.pM c (Ct.aH c.key c.aI) a_b.gen (Ct.yQ c K N) K [r_b] r_b 0)) (v:=(.fn 112 [↑wb] [])) [bl wb (tS S c gn path pp cp) 138,aU 39 1 (.slice pp path.length cp) path.length (path.map (Value.int .i64))] h λm' hm' B' w' L' s' x' h' hs'=>pR eF (Vo S c K N m' (λj hj=>hst j (Ab hj hm')) (λj hj=>hds j (Ab hj hm')) wb gn path pp cp (JV _) x' s' h' (hs'.less (by decide)) (by omega))
 refine fQ (zO S dW _ (.fn 112 [↑wb] []) (λr_b=>.node r_b λa_b=>Ct.pM c (Ct.aH c.key c.aI) a_b.gen (Ct.yQ c K N) K [r_b] r_b 0) _ _ h.to (hs.less (by decide))) λs2 t3 c4 hq5 w h=>?_
 refine rr (bP rfl rfl (h.b a2) Row.h) ?_
 exact fI (hq5) h.to
theorem LS(S:dN)(c:Ct.Call)(K:Nat)(hK:K+1<=10000000000000)(n:Nat):n<=K->(∀N,n<=N->iI S c (K+1) (N+1) n)/\(∀N kf,n<=N->n<=kf->nN S c (K+1) N (kf+1) n):=by
 induction n using Nat.strongRecOn with
 |_ n ih=>
  intro hn
  have hst:∀N,n<=N->∀j,j<n->iI S c (K+1) N j:=λN hN j hj=>by
   obtain⟨N',rfl⟩:∃N',N=N'+1:=⟨N-1,by omega⟩
   exact(ih j hj (by omega)).1 N' (by omega)
  have hds:∀N kf,n<=N->n<=kf->∀j,j<n->nN S c (K+1) N kf j:=λN kf hN hk j hj=>by
   obtain⟨k',rfl⟩:∃k',kf=k'+1:=⟨kf-1,by omega⟩
   exact(ih j hj (by omega)).2 N k' (by omega) (by omega)
  exact⟨λN hN wb gn path pp cp B w L s h hs=>Vj S c (K+1) N n (hst N hN) (hds N (K+1) hN (by omega)) wb gn path pp cp s h hs hK,
   λN kf hN hk wb gn path pp cp lv b B w L s h hs h1 h2=>Xv S c (K+1) N kf lv n (hst N hN) (hds N kf hN hk) wb gn path pp cp b s h hs h1 h2⟩
theorem NZ(S:dN)(c:Ct.Call)(K N n:Nat)(hst:∀j,j<=n->iI S c K N j)(cb0 cb1:Nat)(ky:ByteArray)(wb:Nat)(gn:Int)(path:List Int)(pp:Option Addr)(cp:Nat){m:Nat}(hm:m<=n)(s:Ct.St)(h:SH B w (rb cb0 ([↑ky]) 9::rb cb1 ([↑wb]) 136::bl wb (tS S c gn path pp cp) 138::aU 39 1 (.slice pp path.length cp) path.length (path.map (Value.int .i64))::S.a s::L))(hs:Ct.Rm 60 s)(hkz:ky.size<=9223372036854775807):
  Calls prog 64 #[↑cb0,↑cb1] w λe w'=>CP S dW m B ((λ_=>bif !Ct.bU ky then .ret {err:=1}else Ct.yQ c K N) ()) s L e w':=by
 refine bZ func64 ntmps64 h λw h=>?_
 refine jA h λb1 w h=>?_
 refine cl (ca eF rfl) ((Ak ky _ (by omega)).mono ?_)
 rintro _ _ ⟨rfl,rfl⟩
 refine⟨_,rfl,?_⟩
 refine st (nt rfl)<|xe<|nx<|?_
 refine go h λw h=>?_
 refine qc h (λhd2 w h=>?_) λhd2 w h=>?_
 have hd3:(Ct.bU ky)=false:=(xE _).mp hd2
 refine go h λw h=>?_
 refine bA (gV ({err:=1}:Ct.Result) h.to) λw h=>?_
 refine rr (bP rfl rfl (h.b a0) Row.h) ?_
 have h:=kD (S:=S) (n:=m) (r:=({err:=1}:Ct.Result)) h
 exact fI (qT hd2 rfl) h.to
 have hd4:(Ct.bU ky)=true:=(cW _).mp hd2
 refine go h λw h=>?_
 refine fQ (hst m hm wb gn path pp cp _ _ _ s h.to (hs.less (by decide))) λs5 t6 c7 hq8 w h=>?_
 refine rr (bP rfl rfl (h.b a2) Row.h) ?_
 exact fI (qF hd2 (hq8)) h.to
theorem DP(S:dN)(N:Nat)(c:Ct.Call)(s:Ct.St)(h:SH B w (S.a s::L))(hs:Ct.Rm 60 s)(hky:c.key.size<=9223372036854775807)(hmk:c.aI<18446744073709551616)(hNN:N<=3000000000000):
  Calls prog 27 #[S.v,.agg [↑c.aE.root,↑c.aE.readOnly].toArray,.int .u64 (c.aI:Int),↑c.key,↑c.only,.int .u64 (c.expect:Int)] w λe w'=>∃tb s' u,(Ct.SP c (N+1)).head s=(s',u)/\e=.returned (.pointer (some ⟨tb,0,none⟩))/\SH B w' (eN S N tb u 0::S.a s'::L):=by
 refine bZ func27 ntmps27 h λw h=>?_
 refine jX h λb1 w h=>?_
 refine sf (bx h rfl rfl)<|?_
 rintro _ w ⟨b2,rfl,h⟩
 refine st (sg rfl)<|xe<|nx<|?_
 refine sm (λe w=>∃b4:Nat,∃b3:Nat,Sub 28 e (.c 0 (S.v) (.c 9 ↑b2 (.c 13 ↑b4 .n)))/\SH B w (bl b4 ([↑b3]) 136::bl b3 ([S.v,↑c.aE.root,↑c.aE.readOnly,↑c.key,.int .u64 ((Ct.aH c.key c.aI:Nat):Int),↑c.only,.int .u64 (c.expect:Int),.int .i64 0,.slice none 0 0]) 138::bl b2 ([↑c.key]) 9::bl b1 ([↑c.aE.root,↑c.aE.readOnly]) 38::S.a s::L)) ?_ ?_
 refine VS (F:=[bl b1 ([↑c.aE.root,↑c.aE.readOnly]) 38,bl b2 ([↑c.key]) 9]) (.op 0 true (.op 1 true (.op 2 true (.op 3 true (.op 4 true (.op 5 true (.op 7 true (.op 8 true (.fork 6 11 (.op 9 true (.fork 10 11 (.op 11 false (.op 12 false .stop)) (.op 10 false (.op 12 false .stop)))) (.op 6 false (.op 9 true (.op 10 false (.op 12 false .stop))))))))))))) (by kernel_rfl) h (λw h=>(hC (h.at_ a1) (hC (h.at_ a0) hN))) λw h=>go h λw h=>?_
 refine Mg ?_ ?_
 refine cs (ca eF rfl) ((Ba c.key c.aI _ (by omega) (by omega)).mono ?_)
 rintro _ _ ⟨rfl,rfl⟩
 refine⟨_,rfl,(hC (h.at_ a1) (hC (h.at_ a0) hN)),?_⟩
 refine tk (λW H=>bd [S.v,↑c.aE.root,↑c.aE.readOnly,↑c.key,.int .u64 ((Ct.aH c.key c.aI:Nat):Int),↑c.only,.int .u64 (c.expect:Int),.int .i64 0,.slice none 0 0] YT rfl (by kernel_rfl))<|?_
 refine go h λw h=>?_
 refine Mg ?_ ?_
 refine jY h λb3 w h=>?_
 refine jB h λb4 w h=>?_
 exact⟨b4,b3,⟨rfl,rfl,rfl,trivial⟩,h⟩
 refine jB h λb5 w h=>?_
 refine jY h λb6 w h=>?_
 exact⟨b5,b6,⟨rfl,rfl,rfl,trivial⟩,h.to⟩
 refine jB h λb7 w h=>?_
 refine cs (ca eF rfl) ((Ba c.key c.aI _ (by omega) (by omega)).mono ?_)
 rintro _ _ ⟨rfl,rfl⟩
 refine⟨_,rfl,(hC (h.at_ a2) (hC (h.at_ a1) hN)),?_⟩
 refine tk (λW H=>bd [S.v,↑c.aE.root,↑c.aE.readOnly,↑c.key,.int .u64 ((Ct.aH c.key c.aI:Nat):Int),↑c.only,.int .u64 (c.expect:Int),.int .i64 0,.slice none 0 0] YT rfl (by kernel_rfl))<|?_
 refine go h λw h=>?_
 refine jY h λb8 w h=>?_
 exact⟨b7,b8,⟨rfl,rfl,rfl,trivial⟩,h.to⟩
 rintro e w ⟨b4,b3,hE,h⟩
 refine C.sub hE ?_
 clear hE e
 refine go h λw h=>?_
 have h:=SH.nil 39 1 h
 have hh64:=Ct.eI c.key c.aI
 have h:=SH.kX (h.fr (.c r3 .n))
 have h:=SH.kX (h.fr (.c r2 .n))
 refine go h λw h=>?_
 have h:=h.eT a0
 have h:=h.eT a2
 have h:=h.fr (.c r0 (.c r0 (.c r3 (.c r2 .n))))
 have h:=YZ (S:=S) (F:=dW) (n:=N) (j:=60) (args:=qI) (k:=(λ_=>bif !Ct.bU c.key then .ret {err:=1}else Ct.yQ c (N+1) (N+1))) (v:=(.fn 64 [] [↑b2,↑b4])) [rb b2 ([↑c.key]) 9,rb b4 ([↑b3]) 136,bl b3 (tS S c 0 [] none 0) 138,aU 39 1 (.slice none 0 0) 0 []] h λB' w' L' s' x' h' hs'=>pR eF (NZ S c (N+1) (N+1) N (λj hj=>(LS S c N (by omega) j hj).1 N hj) b2 b4 c.key b3 0 [] none 0 (JV _) s' h' (hs'.less (by decide)) (by omega))
 refine fQ (Ht S _ (.fn 64 [] [↑b2,↑b4]) (λ_=>bif !Ct.bU c.key then .ret {err:=1}else Ct.yQ c (N+1) (N+1)) _ h.to (hs.less (by decide))) λtb9 s10 uz11 hq12 w h=>?_
 exact rz ⟨tb9,s10,uz11,hq12,rfl,h.to⟩
end Go.Q9
end
