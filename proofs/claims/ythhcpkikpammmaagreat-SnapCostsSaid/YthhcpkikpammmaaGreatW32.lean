/- Parts of a proof: Cw. -/
import Derived.Test.YthhcpkikpammmaaGreatW31
set_option linter.unusedVariables false
set_option linter.unusedSimpArgs false
set_option maxRecDepth 100000
set_option maxHeartbeats 4000000
section
namespace Go.Q9
open Go.Proofs.Tryz
open Go.RowKit Go.E
attribute [local irreducible] gB wpS Go.E.X XS C jU kP fin Y U F Ca jT bl rb aU bV ex ce pu sK gK bK zK gM fO dH gP nE rD
open Go.Ct (qN qA qC qG qT qF)
def oS(S:dN)[Full S](N n:Nat):Prop:=∀(t:Ct.bC) (B w:World) (L:List As) (s:Ct.St),SH B w (S.a s::L)->Ct.Rm 30 s->
 Calls prog 38 #[.agg [S.v,↑t.root,↑t.readOnly].toArray] w λe w'=>CP S dW n B (Ct.iT t N) s L e w'
variable{B w:World}{L:List As}
theorem DP(S:dN)[Full S](N n:Nat)(hrec:∀j,j<=n->oS S N j)(cb0:Nat)(t:Ct.bC){m:Nat}(hm:m<=n)(ok:Bool)(s:Ct.St)(h:SH B w (rb cb0 ([S.v,↑t.root,↑t.readOnly]) 93::S.a s::L))(hs:Ct.Rm 60 s):
  Calls prog 78 #[↑ok,↑cb0] w λe w'=>CP S dW m B ((λok_b=>bif !ok_b then Ct.iT t N else .ret {found:=true}) ok) s L e w':=by
 refine bZ func78 ntmps78 h λw h=>?_
 refine jA h λb1 w h=>?_
 refine qc h (λhd2 w h=>?_) λhd2 w h=>?_
 have hd3:ok=false:=(pJ _).mp hd2
 refine go h λw h=>?_
 refine fQ (hrec m hm t _ _ _ s h.to (hs.less (by decide))) λs4 t5 c6 hq7 w h=>?_
 refine rr (bP rfl rfl (h.b a2) Row.h) ?_
 exact fI (qT hd2 (hq7)) h.to
 have hd8:ok=true:=(Co _).mp hd2
 refine go h λw h=>?_
 refine bA (gV ({found:=true}:Ct.Result) h.to) λw h=>?_
 refine rr (bP rfl rfl (h.b a0) Row.h) ?_
 have h:=kD (S:=S) (n:=m) (r:=({found:=true}:Ct.Result)) h
 exact fI (qF hd2 rfl) h.to
theorem AT(S:dN)[Full S](N n:Nat)(hrec:∀j,j<=n->oS S N j)(cb0 cb1:Nat)(t:Ct.bC)(r:Int){m:Nat}(hm:m<=n)(x:Int)(s:Ct.St)(h:SH B w (rb cb0 ([S.v,↑t.root,↑t.readOnly]) 93::rb cb1 ([↑r]) 36::S.a s::L))(hs:Ct.Rm 60 s):
  Calls prog 74 #[↑x,↑cb0,↑cb1] w λe w'=>CP S dW m B ((λm0_b=>.alloc {kind:=3} 0 λc_b=>.gen λg_b=>.alloc {kind:=2,gen:=g_b} c_b λi_b=>Ct.lD t r m0_b i_b λok_b=>bif !ok_b then Ct.iT t N else .ret {found:=true}) x) s L e w':=by
 refine bZ func74 ntmps74 h λw h=>?_
 refine jA h λb1 w h=>?_
 refine dZ [1,3,7,9,4,10,12] (by kernel_rfl) h (.c r1 .n) λw h=>go h λw h=>?_
 refine gO (Jg h.to) λw h=>?_
 refine cs (ci (S.sA h a3) rfl rfl) ((cQ S s ({kind:=3}:Ct.Node) {} 0 (SH.eE ({kind:=3}:Ct.Node) rfl rfl h.to) hs (Ct.fY _)).mono ?_)
 rintro _ w ⟨rfl,h⟩
 have hs:=hs.alloc (Ct.fY _) 0
 refine⟨_,rfl,h.hs (.c r2 .n),?_⟩
 refine go h λw h=>?_
 refine cl (ci (S.sG h a0) rfl rfl) ((Um S (s.alloc ({kind:=3}:Ct.Node) 0).1 h.to hs).mono ?_)
 rintro _ w ⟨rfl,h⟩
 have hs:=hs.gen
 refine⟨_,rfl,?_⟩
 refine go h λw h=>?_
 refine dZ [1,3,5,9,11,13,6,14,16] (by kernel_rfl) h (.c r2 .n) λw h=>go h λw h=>?_
 refine gO (nA _ h.to) λw h=>?_
 refine cs (ci (S.sA h a0) rfl rfl) ((cQ S (s.alloc ({kind:=3}:Ct.Node) 0).1.bS.1 ({kind:=2,gen:=(s.alloc ({kind:=3}:Ct.Node) 0).1.bS.2}:Ct.Node) {} (s.alloc ({kind:=3}:Ct.Node) 0).2 (SH.eE ({kind:=2,gen:=(s.alloc ({kind:=3}:Ct.Node) 0).1.bS.2}:Ct.Node) rfl rfl h.to) hs (Ct.bG _ 2 (s.alloc ({kind:=3}:Ct.Node) 0).1.bS.2 0 0 0)).mono ?_)
 rintro _ w ⟨rfl,h⟩
 have hs:=hs.alloc (Ct.bG _ 2 (s.alloc ({kind:=3}:Ct.Node) 0).1.bS.2 0 0 0) (s.alloc ({kind:=3}:Ct.Node) 0).2
 refine⟨_,rfl,h.hs (.c r2 .n),?_⟩
 refine go h λw h=>?_
 have h:=h.eT a2
 have h:=h.fr (.c r0 .n)
 have h:=Me (j:=60) (S:=S) (F:=dW) (n:=m) (args:=dV) (k:=(λok_b=>bif !ok_b then Ct.iT t N else .ret {found:=true})) (v:=(.fn 78 [] [↑cb0])) [rb cb0 ([S.v,↑t.root,↑t.readOnly]) 93] h λm' hm' B' w' L' s' x' h' hs'=>pR eF (DP S N m (λj hj=>hrec j (DM hj hm)) cb0 t (vL hm') x' s' h' (hs'.less (by decide)))
 refine cl (ca eF rfl) ((Li S dW t r x ((s.alloc ({kind:=3}:Ct.Node) 0).1.bS.1.alloc ({kind:=2,gen:=(s.alloc ({kind:=3}:Ct.Node) 0).1.bS.2}:Ct.Node) (s.alloc ({kind:=3}:Ct.Node) 0).2).2 (.fn 78 [] [↑cb0]) (λok_b=>bif !ok_b then Ct.iT t N else .ret {found:=true}) m ((s.alloc ({kind:=3}:Ct.Node) 0).1.bS.1.alloc ({kind:=2,gen:=(s.alloc ({kind:=3}:Ct.Node) 0).1.bS.2}:Ct.Node) (s.alloc ({kind:=3}:Ct.Node) 0).2).1 (h.fr (.c r0 (.c r0 .n))) (hs.less (by decide))).mono ?_)
 rintro _ w ⟨s2,t3,c4,hq5,rfl,h⟩
 refine⟨_,rfl,?_⟩
 refine sf (so h rfl rfl rfl fZ (eO _) (.r (.r (.r (.r (.r (.r (.r (.r (.r (.r (.r (.r (.r (.r .d)))))))))))))) u2)<|?_
 rintro _ w h
 refine xe<|nx<|rt<|?_
 refine go h λw h=>?_
 refine rr (bP rfl rfl (h.b a2) Row.h) ?_
 exact fI (qA (qG (qA (hq5)))) h.to
theorem Zv(S:dN)[Full S](N n:Nat)(hrec:∀j,j<=n->oS S N j)(cb0:Nat)(t:Ct.bC){m:Nat}(hm:m<=n)(x:Int)(s:Ct.St)(h:SH B w (rb cb0 ([S.v,↑t.root,↑t.readOnly]) 93::S.a s::L))(hs:Ct.Rm 60 s):
  Calls prog 73 #[↑x,↑cb0] w λe w'=>CP S dW m B ((λr_b=>Ct.mM t r_b λm0_b=>.alloc {kind:=3} 0 λc_b=>.gen λg_b=>.alloc {kind:=2,gen:=g_b} c_b λi_b=>Ct.lD t r_b m0_b i_b λok_b=>bif !ok_b then Ct.iT t N else .ret {found:=true}) x) s L e w':=by
 refine bZ func73 ntmps73 h λw h=>?_
 refine jX h λb1 w h=>?_
 refine jA h λb2 w h=>?_
 have h:=SH.kX (h.fr (.c r1 .n))
 refine go h λw h=>?_
 have h:=h.eT a0
 have h:=h.eT a3
 have h:=h.fr (.c r0 (.c r0 .n))
 have h:=Me (j:=60) (S:=S) (F:=dW) (n:=m) (args:=dQ) (k:=(λm0_b=>.alloc {kind:=3} 0 λc_b=>.gen λg_b=>.alloc {kind:=2,gen:=g_b} c_b λi_b=>Ct.lD t x m0_b i_b λok_b=>bif !ok_b then Ct.iT t N else .ret {found:=true})) (v:=(.fn 74 [] [↑cb0,↑b1])) [rb cb0 ([S.v,↑t.root,↑t.readOnly]) 93,rb b1 ([↑x]) 36] h λm' hm' B' w' L' s' x' h' hs'=>pR eF (AT S N m (λj hj=>hrec j (DM hj hm)) cb0 b1 t x (vL hm') x' s' h' (hs'.less (by decide)))
 refine cl (ca eF rfl) ((jZ S dW t x (.fn 74 [] [↑cb0,↑b1]) (λm0_b=>.alloc {kind:=3} 0 λc_b=>.gen λg_b=>.alloc {kind:=2,gen:=g_b} c_b λi_b=>Ct.lD t x m0_b i_b λok_b=>bif !ok_b then Ct.iT t N else .ret {found:=true}) m s (h.fr (.c r0 (.c r3 .n))) (hs.less (by decide))).mono ?_)
 rintro _ w ⟨s3,t4,c5,hq6,rfl,h⟩
 refine⟨_,rfl,?_⟩
 refine sf (so h rfl rfl rfl fZ (eO _) (.r (.r (.r (.r (.r (.r (.r (.r (.r (.r (.r (.r (.r (.r .d)))))))))))))) u3)<|?_
 rintro _ w h
 refine xe<|nx<|rt<|?_
 refine go h λw h=>?_
 refine rr (bP rfl rfl (h.b a3) Row.h) ?_
 exact fI (hq6) h.to
theorem vA(S:dN)[Full S](N n:Nat)(hrec:∀j,j<n->oS S N j)(t:Ct.bC)(s:Ct.St)(h:SH B w (S.a s::L))(hs:Ct.Rm 30 s):
  Calls prog 38 #[.agg [S.v,↑t.root,↑t.readOnly].toArray] w λe w'=>CP S dW n B (Ct.iT t (N+1)) s L e w':=by
 refine bZ func38 ntmps38 h λw h=>?_
 refine jX h λb1 w h=>?_
 refine jA h λb2 w h=>?_
 have h:=SH.kX (h.fr (.c r1 .n))
 refine go h λw h=>?_
 have h:=h.eT a0
 have h:=h.fr (.c r0 .n)
 have h:=Me (j:=60) (S:=S) (F:=dW) (n:=n) (args:=dQ) (k:=(λr_b=>Ct.mM t r_b λm0_b=>.alloc {kind:=3} 0 λc_b=>.gen λg_b=>.alloc {kind:=2,gen:=g_b} c_b λi_b=>Ct.lD t r_b m0_b i_b λok_b=>bif !ok_b then Ct.iT t N else .ret {found:=true})) (v:=(.fn 73 [] [↑b1])) [rb b1 ([S.v,↑t.root,↑t.readOnly]) 93] h λm' hm' B' w' L' s' x' h' hs'=>pR eF (Zv S N m' (λj hj=>hrec j (An hj hm')) b1 t (bD _) x' s' h' (hs'.less (by decide)))
 refine cl (ca eF rfl) ((zO S dW t (.fn 73 [] [↑b1]) (λr_b=>Ct.mM t r_b λm0_b=>.alloc {kind:=3} 0 λc_b=>.gen λg_b=>.alloc {kind:=2,gen:=g_b} c_b λi_b=>Ct.lD t r_b m0_b i_b λok_b=>bif !ok_b then Ct.iT t N else .ret {found:=true}) n s (h.fr (.c r0 (.c r2 .n))) (hs.less (by decide))).mono ?_)
 rintro _ w ⟨s3,t4,c5,hq6,rfl,h⟩
 refine⟨_,rfl,?_⟩
 refine sf (so h rfl rfl rfl fZ (eO _) (.r (.r (.r (.r (.r (.r (.r (.r (.r (.r (.r (.r (.r (.r .d)))))))))))))) u3)<|?_
 rintro _ w h
 refine xe<|nx<|rt<|?_
 refine go h λw h=>?_
 refine rr (bP rfl rfl (h.b a3) Row.h) ?_
 exact fI (hq6) h.to
theorem Eo(S:dN)[Full S]:∀(N n:Nat),n<=N->oS S (N+1) n -- 38
 |0,n,hn=>λt B w L s h hs=>vA S 0 n (λj hj=>by omega) t s h hs
 |N+1,n,hn=>λt B w L s h hs=>vA S (N+1) n (λj hj=>Eo S N j (by omega)) t s h hs
theorem AG(S:dN)[Full S](N n:Nat)(hrec:∀j,j<=n->oS S N j)(cb0:Nat)(t:Ct.bC){m:Nat}(hm:m<=n)(s:Ct.St)(h:SH B w (rb cb0 ([S.v,↑t.root,↑t.readOnly]) 93::S.a s::L))(hs:Ct.Rm 60 s):
  Calls prog 37 #[↑cb0] w λe w'=>CP S dW m B ((λ_=>Ct.iT t N) ()) s L e w':=by
 refine bZ func37 ntmps37 h λw h=>?_
 refine jA h λb1 w h=>?_
 refine cl (ca eF rfl) ((hrec m hm t _ _ _ s (h.fr (.c r2 .n)) (hs.less (by decide))).mono ?_)
 rintro _ w ⟨s2,t3,c4,hq5,rfl,h⟩
 refine⟨_,rfl,?_⟩
 refine sf (so h rfl rfl rfl fZ (eO _) (.r (.r (.r (.r (.r (.r (.r (.r (.r (.r (.r (.r (.r (.r .d)))))))))))))) u2)<|?_
 rintro _ w h
 refine xe<|nx<|rt<|?_
 refine go h λw h=>?_
 refine rr (bP rfl rfl (h.b a2) Row.h) ?_
 exact fI (hq5) h.to
theorem Ep(S:dN)[Full S](N:Nat)(t:Ct.bC)(s:Ct.St)(h:SH B w (S.a s::L))(hs:Ct.Rm 60 s):
  Calls prog 11 #[S.v,.agg [↑t.root,↑t.readOnly].toArray] w λe w'=>∃tb s' u,(Ct.iT t (N+1)).head s=(s',u)/\e=.returned (.pointer (some ⟨tb,0,none⟩))/\SH B w' (kU S N tb u 0::S.a s'::L):=by
 refine bZ func11 ntmps11 h λw h=>?_
 refine jX h λb1 w h=>?_
 refine jA h λb2 w h=>?_
 have h:=SH.kX (h.fr (.c r0 .n))
 refine go h λw h=>?_
 have h:=h.eT a0
 have h:=h.fr (.c r0 .n)
 have h:=YZ (S:=S) (F:=dW) (n:=N) (j:=60) (args:=qI) (k:=(λ_=>Ct.iT t (N+1))) (v:=(.fn 37 [] [↑b2])) [rb b2 ([S.v,↑t.root,↑t.readOnly]) 93] h λB' w' L' s' x' h' hs'=>pR eF (AG S (N+1) N (Eo S N) b2 t (bD _) s' h' hs')
 refine cl (ca eF rfl) ((Ht S N (.fn 37 [] [↑b2]) (λ_=>Ct.iT t (N+1)) s (h.fr (.c r0 (.c r2 .n))) (hs.less (by decide))).mono ?_)
 rintro _ w ⟨tb3,s4,uz5,hq6,rfl,h⟩
 refine⟨_,rfl,?_⟩
 refine st (sg rfl)<|xe<|nx<|rt<|?_
 refine go h λw h=>?_
 exact rz ⟨tb3,s4,uz5,hq6,rfl,h.to⟩
theorem Ib(S:dN)[Full S](s:Ct.St)(m0:Int)(h:SH B w (S.a s::L))(hs:Ct.Rm 2 s):
  Calls prog 83 #[S.v,↑m0] w λe w'=>e=.returned (.int .i64 (s.bS.1.alloc {kind:=2,gen:=s.bS.2} m0).2)/\SH B w' (S.a (s.bS.1.alloc {kind:=2,gen:=s.bS.2} m0).1::L):=by
 refine bZ func83 ntmps83 h λw h=>?_
 refine cl (ci (S.sG h a0) rfl rfl) ((Um S s h.to hs).mono ?_)
 rintro _ w ⟨rfl,h⟩
 have hs:=hs.gen
 refine⟨_,rfl,?_⟩
 refine go h λw h=>?_
 refine dZ [1,3,7,9,11,13,4,14,16] (by kernel_rfl) h .n λw h=>go h λw h=>?_
 refine tk (λW H=>ncM rfl (naF S _))<|go h λw h=>?_
 refine gO (nA _ h.to) λw h=>?_
 refine cs (ci (S.sA h a0) rfl rfl) ((cQ S s.bS.1 ({kind:=2,gen:=s.bS.2}:Ct.Node) {} m0 (SH.eE ({kind:=2,gen:=s.bS.2}:Ct.Node) rfl rfl h.to) hs (Ct.bG _ 2 s.bS.2 0 0 0)).mono ?_)
 rintro _ w ⟨rfl,h⟩
 have hs:=hs.alloc (Ct.bG _ 2 s.bS.2 0 0 0) m0
 refine⟨_,rfl,h.hs .n,?_⟩
 refine go h λw h=>?_
 exact rz ⟨rfl,h⟩
theorem Jp(S:dN)[Full S](m0:Int)(n:Nat)(s:Ct.St)(h:SH B w (S.a s::L))(hs:Ct.Rm 30 s):
  Calls prog 49 #[S.v,↑m0] w λe w'=>CP S dW n B (Ct.Bt m0) s L e w':=by
 refine bZ func49 ntmps49 h λw h=>?_
 refine jA h λb1 w h=>?_
 refine cl (ca eF rfl) ((Ib S s m0 (h.fr (.c r1 .n)) (hs.less (by decide))).mono ?_)
 rintro _ w ⟨rfl,h⟩
 have hs:=hs.gen.alloc (Ct.bG _ 2 s.bS.2 0 0 0) m0
 refine⟨_,rfl,?_⟩
 refine st (sg rfl)<|xe<|nx<|sq<|rg<|st (mv rfl)<|st (mv rfl)<|?_
 refine go h λw h=>?_
 refine cl (ci (S.sC h a0) rfl rfl) ((Am S (s.bS.1.alloc {kind:=2,gen:=s.bS.2} m0).1 (s.bS.1.alloc {kind:=2,gen:=s.bS.2} m0).2 h.to hs).mono ?_)
 rintro _ w ⟨rfl,h⟩
 have hs:=hs.cell (s.bS.1.alloc {kind:=2,gen:=s.bS.2} m0).2
 refine⟨_,rfl,?_⟩
 refine go h λw h=>?_
 refine cl (ca eF rfl) ((gV ({found:=true,aE:={root:=((s.bS.1.alloc {kind:=2,gen:=s.bS.2} m0).1.aV (s.bS.1.alloc {kind:=2,gen:=s.bS.2} m0).2).2}}:Ct.Result) (h.fr .n)).mono ?_)
 rintro _ w ⟨rfl,h⟩
 refine⟨_,rfl,?_⟩
 refine sf (so h rfl rfl rfl fZ (eO _) (.r (.r (.r (.r (.r (.r (.r (.r (.r (.r (.r (.r (.r (.r .d)))))))))))))) u1)<|?_
 rintro _ w h
 refine xe<|nx<|rt<|?_
 refine go h λw h=>?_
 refine rr (bP rfl rfl (h.b a1) Row.h) ?_
 have h:=kD (S:=S) (n:=n) (r:=({found:=true,aE:={root:=((s.bS.1.alloc {kind:=2,gen:=s.bS.2} m0).1.aV (s.bS.1.alloc {kind:=2,gen:=s.bS.2} m0).2).2}}:Ct.Result)) h
 exact fI (qG (qA (qC rfl))) h.to
theorem Ka(S:dN)[Full S](r:Int)(n:Nat)(s:Ct.St)(h:SH B w (S.a s::L))(hs:Ct.Rm 30 s):
  Calls prog 94 #[S.v,↑r] w λe w'=>CP S dW n B (Ct.Gd r) s L e w':=by
 refine bZ func94 ntmps94 h λw h=>?_
 refine jA h λb1 w h=>?_
 refine cl (ci (S.sC h a1) rfl rfl) ((Am S s r h.to hs).mono ?_)
 rintro _ w ⟨rfl,h⟩
 have hs:=hs.cell r
 refine⟨_,rfl,?_⟩
 refine go h λw h=>?_
 refine cl (ca eF rfl) ((gV ({found:=true,aE:={root:=(s.aV r).2,readOnly:=true}}:Ct.Result) (h.fr .n)).mono ?_)
 rintro _ w ⟨rfl,h⟩
 refine⟨_,rfl,?_⟩
 refine sf (so h rfl rfl rfl fZ (eO _) (.r (.r (.r (.r (.r (.r (.r (.r (.r (.r (.r (.r (.r (.r .d)))))))))))))) u1)<|?_
 rintro _ w h
 refine xe<|nx<|rt<|?_
 refine go h λw h=>?_
 refine rr (bP rfl rfl (h.b a1) Row.h) ?_
 have h:=kD (S:=S) (n:=n) (r:=({found:=true,aE:={root:=(s.aV r).2,readOnly:=true}}:Ct.Result)) h
 exact fI (qC rfl) h.to
def wS(S:dN)[Full S](N n:Nat):Prop:=∀(t:Ct.bC) (th:Fv) (k:Int×Int->Ct.I Ct.Result) (B w:World) (L:List As) (s:Ct.St),SH B w (rD S dW n 60 Hc k th::S.a s::L)->Ct.Rm 30 s->
 Calls prog 50 #[.agg [S.v,↑t.root,↑t.readOnly].toArray,th.val] w λe w'=>CP S dW n B (Ct.Gb t (λa b=>k (a,b)) N) s L e w'
theorem OG(S:dN)[Full S](N n:Nat)(hrec:∀j,j<=n->wS S N j)(cb0 cb1 cb2 cb3:Nat)(t:Ct.bC)(thk:Fv)(k:Int×Int->Ct.I Ct.Result)(r:Int)(m0:Int){m:Nat}(hm:m<=n)(ok:Bool)(s:Ct.St)(h:SH B w (rb cb0 ([S.v,↑t.root,↑t.readOnly]) 93::rb cb1 [thk.val] 115::rb cb2 ([↑r]) 36::rb cb3 ([↑m0]) 36::gP S dW n 60 Hc k thk::S.a s::L))(hs:Ct.Rm 60 s):
  Calls prog 86 #[↑ok,↑cb0,↑cb1,↑cb2,↑cb3] w λe w'=>CP S dW m B ((λok_b=>bif !ok_b then Ct.Gb t (λa b=>k (a,b)) N else k (r,m0)) ok) s L e w':=by
 have h:=iI hm (bD _) (h.fr (.c r4 .n))
 refine bZ func86 ntmps86 h λw h=>?_
 refine jA h λb1 w h=>?_
 refine qc h (λhd2 w h=>?_) λhd2 w h=>?_
 have hd3:ok=false:=(pJ _).mp hd2
 refine go h λw h=>?_
 have h:=Rj (j:=60) (by decide) (h.fr (.c r1 .n))
 refine fQ (hrec m hm t thk k _ _ _ s h.to (hs.less (by decide))) λs4 t5 c6 hq7 w h=>?_
 refine rr (bP rfl rfl (h.b a2) Row.h) ?_
 exact fI (qT hd2 (hq7)) h.to
 have hd8:ok=true:=(Co _).mp hd2
 refine go h λw h=>?_
 refine PM rfl rfl ((mA (h.fr (.c r1 (.c r5 .n))) (hs.less (by decide)) (r,m0)).mono ?_)
 rintro _ w ⟨s9,t10,c11,hq12,rfl,h⟩
 refine⟨_,rfl,?_⟩
 refine go h λw h=>?_
 refine rr (bP rfl rfl (h.b a2) Row.h) ?_
 exact fI (qF hd2 (hq12)) h.to
theorem LA(S:dN)[Full S](N n:Nat)(hrec:∀j,j<=n->wS S N j)(cb0 cb1 cb2:Nat)(t:Ct.bC)(r:Int)(thk:Fv)(k:Int×Int->Ct.I Ct.Result){m:Nat}(hm:m<=n)(x:Int)(s:Ct.St)(h:SH B w (rb cb0 ([S.v,↑t.root,↑t.readOnly]) 93::rb cb1 ([↑r]) 36::rb cb2 [thk.val] 115::gP S dW n 60 Hc k thk::S.a s::L))(hs:Ct.Rm 60 s):
  Calls prog 85 #[↑x,↑cb0,↑cb1,↑cb2] w λe w'=>CP S dW m B ((λm0_b=>.gen λg_b=>.alloc {kind:=2,gen:=g_b} m0_b λi_b=>Ct.lD t r m0_b i_b λok_b=>bif !ok_b then Ct.Gb t (λa b=>k (a,b)) N else k (r,m0_b)) x) s L e w':=by
 have h:=iI hm (bD _) (h.fr (.c r3 .n))
 refine bZ func85 ntmps85 h λw h=>?_
 refine jX h λb1 w h=>?_
 refine jA h λb2 w h=>?_
 refine cl (ca eF rfl) ((Ib S s x (h.fr (.c r6 .n)) (hs.less (by decide))).mono ?_)
 rintro _ w ⟨rfl,h⟩
 have hs:=hs.gen.alloc (Ct.bG _ 2 s.bS.2 0 0 0) x
 refine⟨_,rfl,?_⟩
 refine st (sg rfl)<|xe<|nx<|sq<|?_
 refine go h λw h=>?_
 have h:=SH.kX (h.fr (.c r2 .n))
 refine go h λw h=>?_
 have h:=h.eT a0
 have h:=h.eT a6
 have h:=h.eT a8
 have h:=h.eT a7
 have h:=h.fr (.c r0 (.c r0 (.c r0 (.c r0 (.c r3 .n)))))
 have h:=Me (j:=60) (S:=S) (F:=dW) (n:=m) (args:=dV) (k:=(λok_b=>bif !ok_b then Ct.Gb t (λa b=>k (a,b)) N else k (r,x))) (v:=(.fn 86 [] [↑cb0,↑cb2,↑cb1,↑b1])) [rb cb0 ([S.v,↑t.root,↑t.readOnly]) 93,rb cb2 [thk.val] 115,rb cb1 ([↑r]) 36,rb b1 ([↑x]) 36,gP S dW m 60 Hc k thk] h λm' hm' B' w' L' s' x' h' hs'=>pR eF (OG S N m (λj hj=>hrec j (DM hj hm)) cb0 cb2 cb1 b1 t thk k r x (vL hm') x' s' h' (hs'.less (by decide)))
 refine cl (ca eF rfl) ((Li S dW t r x (s.bS.1.alloc {kind:=2,gen:=s.bS.2} x).2 (.fn 86 [] [↑cb0,↑cb2,↑cb1,↑b1]) (λok_b=>bif !ok_b then Ct.Gb t (λa b=>k (a,b)) N else k (r,x)) m (s.bS.1.alloc {kind:=2,gen:=s.bS.2} x).1 (h.fr (.c r0 (.c r1 .n))) (hs.less (by decide))).mono ?_)
 rintro _ w ⟨s3,t4,c5,hq6,rfl,h⟩
 refine⟨_,rfl,?_⟩
 refine sf (so h rfl rfl rfl fZ (eO _) (.r (.r (.r (.r (.r (.r (.r (.r (.r (.r (.r (.r (.r (.r .d)))))))))))))) u3)<|?_
 rintro _ w h
 refine xe<|nx<|rt<|?_
 refine go h λw h=>?_
 refine rr (bP rfl rfl (h.b a3) Row.h) ?_
 exact fI (qG (qA (hq6))) h.to
theorem JZ(S:dN)[Full S](N n:Nat)(hrec:∀j,j<=n->wS S N j)(cb0 cb1:Nat)(t:Ct.bC)(thk:Fv)(k:Int×Int->Ct.I Ct.Result){m:Nat}(hm:m<=n)(x:Int)(s:Ct.St)(h:SH B w (rb cb0 ([S.v,↑t.root,↑t.readOnly]) 93::rb cb1 [thk.val] 115::gP S dW n 60 Hc k thk::S.a s::L))(hs:Ct.Rm 60 s):
  Calls prog 84 #[↑x,↑cb0,↑cb1] w λe w'=>CP S dW m B ((λr_b=>Ct.mM t r_b λm0_b=>.gen λg_b=>.alloc {kind:=2,gen:=g_b} m0_b λi_b=>Ct.lD t r_b m0_b i_b λok_b=>bif !ok_b then Ct.Gb t (λa b=>k (a,b)) N else k (r_b,m0_b)) x) s L e w':=by
 have h:=iI hm (bD _) (h.fr (.c r2 .n))
 refine bZ func84 ntmps84 h λw h=>?_
 refine jX h λb1 w h=>?_
 refine jA h λb2 w h=>?_
 have h:=SH.kX (h.fr (.c r1 .n))
 refine go h λw h=>?_
 have h:=h.eT a4
 have h:=h.eT a1
 have h:=h.eT a5
 have h:=h.fr (.c r0 (.c r0 (.c r0 (.c r2 .n))))
 have h:=Me (j:=60) (S:=S) (F:=dW) (n:=m) (args:=dQ) (k:=(λm0_b=>.gen λg_b=>.alloc {kind:=2,gen:=g_b} m0_b λi_b=>Ct.lD t x m0_b i_b λok_b=>bif !ok_b then Ct.Gb t (λa b=>k (a,b)) N else k (x,m0_b))) (v:=(.fn 85 [] [↑cb0,↑b1,↑cb1])) [rb cb0 ([S.v,↑t.root,↑t.readOnly]) 93,rb b1 ([↑x]) 36,rb cb1 [thk.val] 115,gP S dW m 60 Hc k thk] h λm' hm' B' w' L' s' x' h' hs'=>pR eF (LA S N m (λj hj=>hrec j (DM hj hm)) cb0 b1 cb1 t x thk k (vL hm') x' s' h' (hs'.less (by decide)))
 refine cl (ca eF rfl) ((jZ S dW t x (.fn 85 [] [↑cb0,↑b1,↑cb1]) (λm0_b=>.gen λg_b=>.alloc {kind:=2,gen:=g_b} m0_b λi_b=>Ct.lD t x m0_b i_b λok_b=>bif !ok_b then Ct.Gb t (λa b=>k (a,b)) N else k (x,m0_b)) m s (h.fr (.c r0 (.c r4 .n))) (hs.less (by decide))).mono ?_)
 rintro _ w ⟨s3,t4,c5,hq6,rfl,h⟩
 refine⟨_,rfl,?_⟩
 refine sf (so h rfl rfl rfl fZ (eO _) (.r (.r (.r (.r (.r (.r (.r (.r (.r (.r (.r (.r (.r (.r .d)))))))))))))) u3)<|?_
 rintro _ w h
 refine xe<|nx<|rt<|?_
 refine go h λw h=>?_
 refine rr (bP rfl rfl (h.b a3) Row.h) ?_
 exact fI (hq6) h.to
theorem Hd(S:dN)[Full S](N n:Nat)(hrec:∀j,j<n->wS S N j)(t:Ct.bC)(thk:Fv)(k:Int×Int->Ct.I Ct.Result)(s:Ct.St)(h:SH B w (rD S dW n 60 Hc k thk::S.a s::L))(hs:Ct.Rm 30 s):
  Calls prog 50 #[.agg [S.v,↑t.root,↑t.readOnly].toArray,thk.val] w λe w'=>CP S dW n B (Ct.Gb t (λa b=>k (a,b)) (N+1)) s L e w':=by
 refine bZ func50 ntmps50 h λw h=>?_
 refine jX h λb1 w h=>?_
 refine sf (bx h rfl (lE _)) ?_
 rintro _ w ⟨b2,rfl,h⟩
 refine go h λw h=>?_
 refine jA h λb3 w h=>?_
 have h:=SH.kX (h.fr (.c r2 .n))
 have h:=SH.kX (h.fr (.c r2 .n))
 refine go h λw h=>?_
 have h:=h.eT a0
 have h:=h.eT a2
 have h:=h.fr (.c r0 (.c r0 (.c r3 .n)))
 have h:=Me (j:=60) (S:=S) (F:=dW) (n:=n) (args:=dQ) (k:=(λr_b=>Ct.mM t r_b λm0_b=>.gen λg_b=>.alloc {kind:=2,gen:=g_b} m0_b λi_b=>Ct.lD t r_b m0_b i_b λok_b=>bif !ok_b then Ct.Gb t (λa b=>k (a,b)) N else k (r_b,m0_b))) (v:=(.fn 84 [] [↑b1,↑b2])) [rb b1 ([S.v,↑t.root,↑t.readOnly]) 93,rb b2 [thk.val] 115,rD S dW n 60 Hc k thk] h λm' hm' B' w' L' s' x' h' hs'=>pR eF (JZ S N m' (λj hj=>hrec j (An hj hm')) b1 b2 t thk k (bD _) x' s' ((sB hm' (h'.fr (.c r2 .n))).fr (.c r1 (.c r1 (.c r0 .n)))) (hs'.less (by decide)))
 refine cl (ca eF rfl) ((zO S dW t (.fn 84 [] [↑b1,↑b2]) (λr_b=>Ct.mM t r_b λm0_b=>.gen λg_b=>.alloc {kind:=2,gen:=g_b} m0_b λi_b=>Ct.lD t r_b m0_b i_b λok_b=>bif !ok_b then Ct.Gb t (λa b=>k (a,b)) N else k (r_b,m0_b)) n s (h.fr (.c r0 (.c r3 .n))) (hs.less (by decide))).mono ?_)
 rintro _ w ⟨s4,t5,c6,hq7,rfl,h⟩
 refine⟨_,rfl,?_⟩
 refine sf (so h rfl rfl rfl fZ (eO _) (.r (.r (.r (.r (.r (.r (.r (.r (.r (.r (.r (.r (.r (.r .d)))))))))))))) u4)<|?_
 rintro _ w h
 refine xe<|nx<|rt<|?_
 refine go h λw h=>?_
 refine rr (bP rfl rfl (h.b a4) Row.h) ?_
 exact fI (hq7) h.to
theorem Hw(S:dN)[Full S]:∀(N n:Nat),n<=N->wS S (N+1) n -- 50
 |0,n,hn=>λt th k B w L s h hs=>Hd S 0 n (λj hj=>by omega) t th k s h hs
 |N+1,n,hn=>λt th k B w L s h hs=>Hd S (N+1) n (λj hj=>Hw S N j (by omega)) t th k s h hs
theorem TY(S:dN)[Full S](cb0:Nat){n m:Nat}(hm:m<=n)(x:Int)(s:Ct.St)(h:SH B w (rb cb0 [S.v] 91::S.a s::L))(hs:Ct.Rm 60 s):
  Calls prog 48 #[↑x,↑cb0] w λe w'=>CP S dW m B ((Ct.Bt) x) s L e w':=by
 refine bZ func48 ntmps48 h λw h=>?_
 refine jA h λb1 w h=>?_
 refine cl (ca eF rfl) ((Jp S x m s (h.fr (.c r2 .n)) (hs.less (by decide))).mono ?_)
 rintro _ w ⟨s2,t3,c4,hq5,rfl,h⟩
 refine⟨_,rfl,?_⟩
 refine sf (so h rfl rfl rfl fZ (eO _) (.r (.r (.r (.r (.r (.r (.r (.r (.r (.r (.r (.r (.r (.r .d)))))))))))))) u2)<|?_
 rintro _ w h
 refine xe<|nx<|rt<|?_
 refine go h λw h=>?_
 refine rr (bP rfl rfl (h.b a2) Row.h) ?_
 exact fI (hq5) h.to
theorem TC(S:dN)[Full S](cb0 cb1:Nat)(t:Ct.bC){n m:Nat}(hm:m<=n)(x:Int)(s:Ct.St)(h:SH B w (rb cb0 ([S.v,↑t.root,↑t.readOnly]) 93::rb cb1 [S.v] 91::S.a s::L))(hs:Ct.Rm 60 s):
  Calls prog 46 #[↑x,↑cb0,↑cb1] w λe w'=>CP S dW m B ((λr_b=>Ct.mM t r_b Ct.Bt) x) s L e w':=by
 refine bZ func46 ntmps46 h λw h=>?_
 refine jA h λb1 w h=>?_
 have h:=h.eT a2
 have h:=h.fr (.c r0 .n)
 have h:=Me (j:=60) (S:=S) (F:=dW) (n:=m) (args:=dQ) (k:=Ct.Bt) (v:=(.fn 48 [] [↑cb1])) [rb cb1 [S.v] 91] h λm' hm' B' w' L' s' x' h' hs'=>pR eF (TY S cb1 (vL hm') x' s' h' (hs'.less (by decide)))
 refine cl (ca eF rfl) ((jZ S dW t x (.fn 48 [] [↑cb1]) Ct.Bt m s (h.fr (.c r0 (.c r3 .n))) (hs.less (by decide))).mono ?_)
 rintro _ w ⟨s2,t3,c4,hq5,rfl,h⟩
 refine⟨_,rfl,?_⟩
 refine sf (so h rfl rfl rfl fZ (eO _) (.r (.r (.r (.r (.r (.r (.r (.r (.r (.r (.r (.r (.r (.r .d)))))))))))))) u2)<|?_
 rintro _ w h
 refine xe<|nx<|rt<|?_
 refine go h λw h=>?_
 refine rr (bP rfl rfl (h.b a2) Row.h) ?_
 exact fI (hq5) h.to
theorem k6(S:dN)[Full S](cb0:Nat){n m:Nat}(hm:m<=n)(x1 x2:Int)(s:Ct.St)(h:SH B w (rb cb0 [S.v] 91::S.a s::L))(hs:Ct.Rm 60 s):
  Calls prog 51 #[↑x1,↑x2,↑cb0] w λe w'=>CP S dW m B ((λp_b=>Ct.Bt p_b.2) (x1,x2)) s L e w':=by
 refine bZ func51 ntmps51 h λw h=>?_
 refine jA h λb1 w h=>?_
 refine cl (ca eF rfl) ((Jp S x2 m s (h.fr (.c r2 .n)) (hs.less (by decide))).mono ?_)
 rintro _ w ⟨s2,t3,c4,hq5,rfl,h⟩
 refine⟨_,rfl,?_⟩
 refine sf (so h rfl rfl rfl fZ (eO _) (.r (.r (.r (.r (.r (.r (.r (.r (.r (.r (.r (.r (.r (.r .d)))))))))))))) u2)<|?_
 rintro _ w h
 refine xe<|nx<|rt<|?_
 refine go h λw h=>?_
 refine rr (bP rfl rfl (h.b a2) Row.h) ?_
 exact fI (hq5) h.to
theorem I5(S:dN)[Full S](N n:Nat)(hrec:∀j,j<=n->wS S N j)(cb0 cb1 cb2:Nat)(t:Ct.bC){m:Nat}(hm:m<=n)(s:Ct.St)(h:SH B w (rb cb0 ([↑t.root,↑t.readOnly]) 35::rb cb1 ([S.v,↑t.root,↑t.readOnly]) 93::rb cb2 [S.v] 91::S.a s::L))(hs:Ct.Rm 60 s):
  Calls prog 44 #[↑cb0,↑cb1,↑cb2] w λe w'=>CP S dW m B ((λ_=>Ct.Cg t N) ()) s L e w':=by
 refine bZ func44 ntmps44 h λw h=>?_
 refine jA h λb1 w h=>?_
 refine qc h (λhd2 w h=>?_) λhd2 w h=>?_
 refine bA (jH _ (.fn 46 [] [↑cb1,↑cb2]) h.to) λw h=>?_
 refine rr (bP rfl rfl (h.b a0) Row.h) ?_
 have h:=h.eT a3
 have h:=h.eT a3
 have h:=h.fr (.c r0 (.c r0 .n))
 have h:=Nt (S:=S) (F:=dW) (n:=m) (args:=dQ) (k:=(λr_b=>Ct.mM t r_b Ct.Bt)) (v:=(.fn 46 [] [↑cb1,↑cb2])) [rb cb1 ([S.v,↑t.root,↑t.readOnly]) 93,rb cb2 [S.v] 91] h λm' hm' B' w' L' s' x' h' hs'=>pR eF (TC S cb1 cb2 t (vL hm') x' s' h' (hs'.less (by decide)))
 have h:=kL (a:=t.root) h
 exact fI (qT hd2 rfl) h.to
 have h:=h.eT a3
 have h:=h.fr (.c r0 .n)
 have h:=Me (j:=60) (S:=S) (F:=dW) (n:=m) (args:=Hc) (k:=(λp_b=>Ct.Bt p_b.2)) (v:=(.fn 51 [] [↑cb2])) [rb cb2 [S.v] 91] h λm' hm' B' w' L' s' x' h' hs'=>pR eF (k6 S cb2 (vL hm') x'.1 x'.2 s' h' (hs'.less (by decide)))
 refine fQ (hrec m hm t (.fn 51 [] [↑cb2]) (λp_b=>Ct.Bt p_b.2) _ _ _ s h.to (hs.less (by decide))) λs3 t4 c5 hq6 w h=>?_
 refine rr (bP rfl rfl (h.b a2) Row.h) ?_
 exact fI (qF hd2 (hq6)) h.to
theorem BC(S:dN)[Full S](N:Nat)(t:Ct.bC)(s:Ct.St)(h:SH B w (S.a s::L))(hs:Ct.Rm 60 s):
  Calls prog 17 #[S.v,.agg [↑t.root,↑t.readOnly].toArray] w λe w'=>∃tb s' u,(Ct.Cg t (N+1)).head s=(s',u)/\e=.returned (.pointer (some ⟨tb,0,none⟩))/\SH B w' (kU S N tb u 0::S.a s'::L):=by
 refine bZ func17 ntmps17 h λw h=>?_
 refine jX h λb1 w h=>?_
 refine jX h λb2 w h=>?_
 refine jA h λb3 w h=>?_
 have h:=SH.kX (h.fr (.c r1 .n))
 have h:=SH.kX (h.fr (.c r1 .n))
 have h:=SH.kX (h.fr (.c r2 .n))
 refine go h λw h=>?_
 have h:=h.eT a0
 have h:=h.eT a2
 have h:=h.eT a4
 have h:=h.fr (.c r0 (.c r0 (.c r0 .n)))
 have h:=YZ (S:=S) (F:=dW) (n:=N) (j:=60) (args:=qI) (k:=(λ_=>Ct.Cg t (N+1))) (v:=(.fn 44 [] [↑b2,↑b3,↑b1])) [rb b2 ([↑t.root,↑t.readOnly]) 35,rb b3 ([S.v,↑t.root,↑t.readOnly]) 93,rb b1 [S.v] 91] h λB' w' L' s' x' h' hs'=>pR eF (I5 S (N+1) N (Hw S N) b2 b3 b1 t (bD _) s' h' hs')
 refine cl (ca eF rfl) ((Ht S N (.fn 44 [] [↑b2,↑b3,↑b1]) (λ_=>Ct.Cg t (N+1)) s (h.fr (.c r0 (.c r3 .n))) (hs.less (by decide))).mono ?_)
 rintro _ w ⟨tb4,s5,uz6,hq7,rfl,h⟩
 refine⟨_,rfl,?_⟩
 refine st (sg rfl)<|xe<|nx<|rt<|?_
 refine go h λw h=>?_
 exact rz ⟨tb4,s5,uz6,hq7,rfl,h.to⟩
theorem RT(S:dN)[Full S](cb0:Nat){n m:Nat}(hm:m<=n)(x:Int)(s:Ct.St)(h:SH B w (rb cb0 [S.v] 91::S.a s::L))(hs:Ct.Rm 60 s):
  Calls prog 93 #[↑x,↑cb0] w λe w'=>CP S dW m B ((Ct.Gd) x) s L e w':=by
 refine bZ func93 ntmps93 h λw h=>?_
 refine jA h λb1 w h=>?_
 refine cl (ca eF rfl) ((Ka S x m s (h.fr (.c r2 .n)) (hs.less (by decide))).mono ?_)
 rintro _ w ⟨s2,t3,c4,hq5,rfl,h⟩
 refine⟨_,rfl,?_⟩
 refine sf (so h rfl rfl rfl fZ (eO _) (.r (.r (.r (.r (.r (.r (.r (.r (.r (.r (.r (.r (.r (.r .d)))))))))))))) u2)<|?_
 rintro _ w h
 refine xe<|nx<|rt<|?_
 refine go h λw h=>?_
 refine rr (bP rfl rfl (h.b a2) Row.h) ?_
 exact fI (hq5) h.to
theorem m8(S:dN)[Full S](cb0:Nat){n m:Nat}(hm:m<=n)(x1 x2:Int)(s:Ct.St)(h:SH B w (rb cb0 [S.v] 91::S.a s::L))(hs:Ct.Rm 60 s):
  Calls prog 95 #[↑x1,↑x2,↑cb0] w λe w'=>CP S dW m B ((λp_b=>Ct.Gd p_b.1) (x1,x2)) s L e w':=by
 refine bZ func95 ntmps95 h λw h=>?_
 refine jA h λb1 w h=>?_
 refine cl (ca eF rfl) ((Ka S x1 m s (h.fr (.c r2 .n)) (hs.less (by decide))).mono ?_)
 rintro _ w ⟨s2,t3,c4,hq5,rfl,h⟩
 refine⟨_,rfl,?_⟩
 refine sf (so h rfl rfl rfl fZ (eO _) (.r (.r (.r (.r (.r (.r (.r (.r (.r (.r (.r (.r (.r (.r .d)))))))))))))) u2)<|?_
 rintro _ w h
 refine xe<|nx<|rt<|?_
 refine go h λw h=>?_
 refine rr (bP rfl rfl (h.b a2) Row.h) ?_
 exact fI (hq5) h.to
theorem F9(S:dN)[Full S](N n:Nat)(hrec:∀j,j<=n->wS S N j)(cb0 cb1 cb2:Nat)(t:Ct.bC){m:Nat}(hm:m<=n)(s:Ct.St)(h:SH B w (rb cb0 ([↑t.root,↑t.readOnly]) 35::rb cb1 [S.v] 91::rb cb2 ([S.v,↑t.root,↑t.readOnly]) 93::S.a s::L))(hs:Ct.Rm 60 s):
  Calls prog 92 #[↑cb0,↑cb1,↑cb2] w λe w'=>CP S dW m B ((λ_=>Ct.Qg t N) ()) s L e w':=by
 refine bZ func92 ntmps92 h λw h=>?_
 refine jA h λb1 w h=>?_
 refine qc h (λhd2 w h=>?_) λhd2 w h=>?_
 refine bA (jH _ (.fn 93 [] [↑cb1]) h.to) λw h=>?_
 refine rr (bP rfl rfl (h.b a0) Row.h) ?_
 have h:=h.eT a2
 have h:=h.fr (.c r0 .n)
 have h:=Nt (S:=S) (F:=dW) (n:=m) (args:=dQ) (k:=Ct.Gd) (v:=(.fn 93 [] [↑cb1])) [rb cb1 [S.v] 91] h λm' hm' B' w' L' s' x' h' hs'=>pR eF (RT S cb1 (vL hm') x' s' h' (hs'.less (by decide)))
 have h:=kL (a:=t.root) h
 exact fI (qT hd2 rfl) h.to
 have h:=h.eT a2
 have h:=h.fr (.c r0 .n)
 have h:=Me (j:=60) (S:=S) (F:=dW) (n:=m) (args:=Hc) (k:=(λp_b=>Ct.Gd p_b.1)) (v:=(.fn 95 [] [↑cb1])) [rb cb1 [S.v] 91] h λm' hm' B' w' L' s' x' h' hs'=>pR eF (m8 S cb1 (vL hm') x'.1 x'.2 s' h' (hs'.less (by decide)))
 refine fQ (hrec m hm t (.fn 95 [] [↑cb1]) (λp_b=>Ct.Gd p_b.1) _ _ _ s h.to (hs.less (by decide))) λs3 t4 c5 hq6 w h=>?_
 refine rr (bP rfl rfl (h.b a2) Row.h) ?_
 exact fI (qF hd2 (hq6)) h.to
theorem Mk(S:dN)[Full S](N:Nat)(t:Ct.bC)(s:Ct.St)(h:SH B w (S.a s::L))(hs:Ct.Rm 60 s):
  Calls prog 58 #[S.v,.agg [↑t.root,↑t.readOnly].toArray] w λe w'=>∃tb s' u,(Ct.Qg t (N+1)).head s=(s',u)/\e=.returned (.pointer (some ⟨tb,0,none⟩))/\SH B w' (kU S N tb u 0::S.a s'::L):=by
 refine bZ func58 ntmps58 h λw h=>?_
 refine jX h λb1 w h=>?_
 refine jX h λb2 w h=>?_
 refine jA h λb3 w h=>?_
 have h:=SH.kX (h.fr (.c r1 .n))
 have h:=SH.kX (h.fr (.c r2 .n))
 have h:=SH.kX (h.fr (.c r2 .n))
 refine go h λw h=>?_
 have h:=h.eT a0
 have h:=h.eT a2
 have h:=h.eT a4
 have h:=h.fr (.c r0 (.c r0 (.c r0 .n)))
 have h:=YZ (S:=S) (F:=dW) (n:=N) (j:=60) (args:=qI) (k:=(λ_=>Ct.Qg t (N+1))) (v:=(.fn 92 [] [↑b2,↑b1,↑b3])) [rb b2 ([↑t.root,↑t.readOnly]) 35,rb b1 [S.v] 91,rb b3 ([S.v,↑t.root,↑t.readOnly]) 93] h λB' w' L' s' x' h' hs'=>pR eF (F9 S (N+1) N (Hw S N) b2 b1 b3 t (bD _) s' h' hs')
 refine cl (ca eF rfl) ((Ht S N (.fn 92 [] [↑b2,↑b1,↑b3]) (λ_=>Ct.Qg t (N+1)) s (h.fr (.c r0 (.c r3 .n))) (hs.less (by decide))).mono ?_)
 rintro _ w ⟨tb4,s5,uz6,hq7,rfl,h⟩
 refine⟨_,rfl,?_⟩
 refine st (sg rfl)<|xe<|nx<|rt<|?_
 refine go h λw h=>?_
 exact rz ⟨tb4,s5,uz6,hq7,rfl,h.to⟩
end Go.Q9
end
