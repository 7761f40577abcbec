/- Parts of a proof: Wk. -/
import Derived.Test.YtlpbjpanggcbbaaGreatDoorW20
set_option linter.unusedVariables false
set_option linter.unusedSimpArgs false
set_option maxRecDepth 100000
set_option maxHeartbeats 4000000
section
namespace Go.Q9
open Go.Proofs.Tryz
open Go.RowKit Go.E
open Go.Ct (qN qA qC qG qT qF)
attribute [local irreducible] gB wpS
def eX(z:(Ct.Node×Lq)×Int):List Value:=aL z.1.1 z.1.2++[.int .i64 z.2]
theorem hB(z:(Ct.Node×Lq)×Int):(eX z).length=15:=rfl
def Pw(z:(Ct.Node×Lq)×Int):Ct.Place:=⟨z.1.1,z.2⟩
structure Iq where
 ps:Option Addr
 cs:Nat
 pw:Option Addr
 cw:Nat
 zs:List ((Ct.Node×Lq)×Int)
def m8(ib:Nat)(t:Ct.bC)(it:Ct.jG)(q:Iq):List As:=
 [bl ib [↑t.root,↑t.readOnly,↑it.started,.slice q.ps q.zs.length q.cs,.slice q.pw it.wait.length q.cw] 83,aU 177 15 (.slice q.ps q.zs.length q.cs) q.zs.length (q.zs.flatMap eX),bE (q.zs.map Prod.fst),
  Gy 150 2 (.slice q.pw it.wait.length q.cw) it.wait.length (it.wait.flatMap aR)]
def vV(ib:Nat)(t:Ct.bC)(it:Ct.jG):As:=ex λq:Iq=>se (pu ((q.zs.map Pw).reverse=it.stack)::m8 ib t it q)
variable{B w:World}{L:List As}
theorem SH.VU{ib:Nat}{t:Ct.bC}{it:Ct.jG}(h:SH B w (vV ib t it::L)):∃q:Iq,(q.zs.map Pw).reverse=it.stack/\SH B w (m8 ib t it q++L):=by
 obtain⟨q,h⟩:=SH.ex (f:=λq:Iq=>Go.E.se (Go.E.pu ((q.zs.map Pw).reverse=it.stack)::m8 ib t it q)) h
 exact⟨q,(SH.se h).pu⟩
theorem SH.BR{ib:Nat}{t:Ct.bC}{it:Ct.jG}(q:Iq)(hq:(q.zs.map Pw).reverse=it.stack)(h:SH B w (m8 ib t it q++L)):SH B w (vV ib t it::L):=
 SH.dU (f:=λq:Iq=>Go.E.se (Go.E.pu ((q.zs.map Pw).reverse=it.stack)::m8 ib t it q)) q (SH.is (l:=_::_) (SH.ip hq h))
abbrev Jh(ib:Nat)(t:Ct.bC):Ct.Result×Ct.jG->Cc->As:=tM Prod.fst λz=>vV ib t z.2
theorem TB(l:List ((Ct.Node×Lq)×Int)):∀(i:Nat) (v:Int),i<l.length->(l.flatMap eX).set (i*15+14) (.int .i64 v)=(l.set i ((l.getD i ((({}:Ct.Node),({}:Lq)),(0:Int))).1,v)).flatMap eX:=by
 induction l with
 |nil=>intro i v h;simp at h
 |cons q l ih=>
  intro i v h
  cases i with
  |zero=>rfl
  |succ i=>
   have h2:=ih i v (by simpa using h)
   rw[show (i+1)*15+14=(i*15+14)+15 by omega]
   show (eX q++l.flatMap eX).set _ _=eX q++((l.set i ((l.getD i ((({}:Ct.Node),({}:Lq)),(0:Int))).1,v)).flatMap eX)
   rw[<- h2];rfl
theorem VO{α:Type}(l:List α)(x:α):l.length+1=(l++[x]).length:=by simp
theorem AZ{α:Type}{l:List α}{i:Nat}{x d:α}(h:i<l.length):(l.set i x).getD i d=x:=by
 rw[Fb,List.getElem?_set_self h];rfl
theorem get_mem{α:Type}{l:List α}{i:Nat}{x d:α}(h:i<l.length)(e:l.getD i d=x):x∈l:=by
 rw[<- e,Fb,fM h];exact qR h
theorem SU(S:dN)[Gc S](ib:Nat)(t:Ct.bC)(sd:Bool)(zs:List ((Ct.Node×Lq)×Int))(wt:List Ct.bN)(j:Nat)(ps pw:Option Addr)(cq cw:Nat)(n:Ct.Node)(pb:Option Addr)(cb:Nat)(pp:Option Addr)(cp:Nat)(k:Int)(s:Ct.St)(h:SH B w (bl ib ([↑t.root,↑t.readOnly,↑sd,.slice ps zs.length cq,.slice pw wt.length cw]) 83::aU 177 15 (.slice ps zs.length cq) zs.length (zs.flatMap eX)::bE (zs.map Prod.fst)::S.a s::L))(hj:zs.length=j+1)(hjm:j<=1000000000)(hz:zs.getD j ((({}:Ct.Node),({}:Lq)),(0:Int))=((n,(⟨pb,cb,pp,cp⟩:Lq)),k))(hb64:n.aD<18446744073709551616)(h1:(decide ((⟨n,k⟩:Ct.Place).idx<0))=true):
  Calls prog 85 #[↑ib] w λe w'=>e=.returned (.tuple #[.int .i64 0,↑false])/\SH B w' (bl ib ([↑t.root,↑t.readOnly,↑sd,.slice ps zs.length cq,.slice pw wt.length cw]) 83::aU 177 15 (.slice ps zs.length cq) zs.length (zs.flatMap eX)::bE (zs.map Prod.fst)::S.a s::L):=by
 refine Ea (args:=[_]) func85 rfl ntmps85 rfl ?_
 refine sq<|rg<|st (sg rfl)<|st (sg rfl)<|xe<|nx<|sq<|?_
 obtain⟨b1,rfl⟩:=h.fp a1 (by omega)
 refine dZ [1,3,5,7,9,11,13,15,17,19,21,22] (by kernel_rfl) h (.c r0 .n) λw h=>tk (λW H=>mv rfl)<|tk (λW H=>nc rfl rfl)<|tk (λW H=>fa nB rfl)<|tk (λW H=>ld uD rfl (H.c a0 rfl))<|tk (λW H=>mv rfl)<|tk (λW H=>nc rfl rfl)<|tk (λW H=>fa nB rfl)<|tk (λW H=>ld uD rfl (H.c a0 rfl))<|tk (λW H=>ln zY rfl rfl)<|tk (λW H=>bw rfl rfl (zW (c:=(j:Int)) (by omega) (by omega) (by omega)))<|tk (λW H=>ix (j:=j) zY Oo rfl rfl (by omega))<|ef (sg rfl) (h.hs (.c r0 .n))<|xz<|nx<|sq<|dZ [1,3,5,7,9,11,13,15,17,18,20] (by kernel_rfl) h (.c r1 .n) λw h=>tk (λW H=>mv rfl)<|tk (λW H=>nc rfl rfl)<|tk (λW H=>fa nR rfl)<|tk (λW H=>fa kF rfl)<|tk (λW H=>ld mG rfl ((H.ro a0).x hB (by decide) (by first|omega|(simp;omega)) ((({}:Ct.Node),({}:Lq)),(0:Int)) 3 (.int .u64 (n.aD:Int)) (by rw[hz];rfl)))<|tk (λW H=>mv rfl)<|tk (λW H=>nc rfl rfl)<|tk (λW H=>fa Eb rfl)<|tk (λW H=>ld jE rfl ((H.ro a0).x hB (by decide) (by first|omega|(simp;omega)) ((({}:Ct.Node),({}:Lq)),(0:Int)) 14 (.int .i64 k) (by rw[hz];rfl)))<|cs (ca eF rfl) ((tE n.aD k _ hb64).mono ?_)
 rintro _ _ ⟨rfl,rfl⟩
 refine⟨_,rfl,h.hs (.c r1 .n),?_⟩
 refine ef (sg rfl) (h.hs (.c r1 .n))<|xz<|nx<|sq<|rg<|st (mv rfl)<|st (nc rfl rfl)<|st (fa nR rfl)<|st (fa kF rfl)<|st (ld mG rfl ((h.ro a1).x hB (by decide) (by first|omega|(simp;omega)) ((({}:Ct.Node),({}:Lq)),(0:Int)) 3 (.int .u64 (n.aD:Int)) (by rw[hz];rfl)))<|st (mv rfl)<|cl (ca eF rfl) ((Zm n.aD ((Bm.aO n.aD k:Nat):Int) _ (MM S h a3) hb64).mono ?_)
 rintro _ _ ⟨rfl,rfl⟩
 refine⟨_,rfl,?_⟩
 refine st (sg rfl)<|xe<|nx<|sq<|sq<|rg<|st (mv rfl)<|st (bi rfl rfl rfl)<|st (mv rfl)<|gF rfl rfl h1<|gF rfl rfl h1<|gF rfl rfl h1<|gF rfl rfl h1<|gF rfl rfl h1<|gF rfl rfl h1<|gF rfl rfl h1<|gF rfl rfl h1<|st (pT rfl h1 rfl)<|xe<|nx<|cT rfl<|sq<|rg<|st (sg rfl)<|st (sg rfl)<|xe<|nx<|rt<|tr<|?_
 refine rr (gE results85 rfl rfl)<|⟨rfl,h⟩
theorem PT(S:dN)[Gc S](ib:Nat)(t:Ct.bC)(sd:Bool)(zs:List ((Ct.Node×Lq)×Int))(wt:List Ct.bN)(j:Nat)(ps pw:Option Addr)(cq cw:Nat)(n:Ct.Node)(pb:Option Addr)(cb:Nat)(pp:Option Addr)(cp:Nat)(k:Int)(s:Ct.St)(h:SH B w (bl ib ([↑t.root,↑t.readOnly,↑sd,.slice ps zs.length cq,.slice pw wt.length cw]) 83::aU 177 15 (.slice ps zs.length cq) zs.length (zs.flatMap eX)::bE (zs.map Prod.fst)::S.a s::L))(hj:zs.length=j+1)(hjm:j<=1000000000)(hz:zs.getD j ((({}:Ct.Node),({}:Lq)),(0:Int))=((n,(⟨pb,cb,pp,cp⟩:Lq)),k))(hb64:n.aD<18446744073709551616)(h1:(decide ((⟨n,k⟩:Ct.Place).idx<0))=false)(h2:(decide ((n.aA.length:Int)<=(((⟨n,k⟩:Ct.Place).pos:Nat):Int)))=true):
  Calls prog 85 #[↑ib] w λe w'=>e=.returned (.tuple #[.int .i64 0,↑false])/\SH B w' (bl ib ([↑t.root,↑t.readOnly,↑sd,.slice ps zs.length cq,.slice pw wt.length cw]) 83::aU 177 15 (.slice ps zs.length cq) zs.length (zs.flatMap eX)::bE (zs.map Prod.fst)::S.a s::L):=by
 refine Ea (args:=[_]) func85 rfl ntmps85 rfl ?_
 refine sq<|rg<|st (sg rfl)<|st (sg rfl)<|xe<|nx<|sq<|?_
 obtain⟨b1,rfl⟩:=h.fp a1 (by omega)
 refine dZ [1,3,5,7,9,11,13,15,17,19,21,22] (by kernel_rfl) h (.c r0 .n) λw h=>tk (λW H=>mv rfl)<|tk (λW H=>nc rfl rfl)<|tk (λW H=>fa nB rfl)<|tk (λW H=>ld uD rfl (H.c a0 rfl))<|tk (λW H=>mv rfl)<|tk (λW H=>nc rfl rfl)<|tk (λW H=>fa nB rfl)<|tk (λW H=>ld uD rfl (H.c a0 rfl))<|tk (λW H=>ln zY rfl rfl)<|tk (λW H=>bw rfl rfl (zW (c:=(j:Int)) (by omega) (by omega) (by omega)))<|tk (λW H=>ix (j:=j) zY Oo rfl rfl (by omega))<|ef (sg rfl) (h.hs (.c r0 .n))<|xz<|nx<|sq<|dZ [1,3,5,7,9,11,13,15,17,18,20] (by kernel_rfl) h (.c r1 .n) λw h=>tk (λW H=>mv rfl)<|tk (λW H=>nc rfl rfl)<|tk (λW H=>fa nR rfl)<|tk (λW H=>fa kF rfl)<|tk (λW H=>ld mG rfl ((H.ro a0).x hB (by decide) (by first|omega|(simp;omega)) ((({}:Ct.Node),({}:Lq)),(0:Int)) 3 (.int .u64 (n.aD:Int)) (by rw[hz];rfl)))<|tk (λW H=>mv rfl)<|tk (λW H=>nc rfl rfl)<|tk (λW H=>fa Eb rfl)<|tk (λW H=>ld jE rfl ((H.ro a0).x hB (by decide) (by first|omega|(simp;omega)) ((({}:Ct.Node),({}:Lq)),(0:Int)) 14 (.int .i64 k) (by rw[hz];rfl)))<|cs (ca eF rfl) ((tE n.aD k _ hb64).mono ?_)
 rintro _ _ ⟨rfl,rfl⟩
 refine⟨_,rfl,h.hs (.c r1 .n),?_⟩
 refine ef (sg rfl) (h.hs (.c r1 .n))<|xz<|nx<|sq<|rg<|st (mv rfl)<|st (nc rfl rfl)<|st (fa nR rfl)<|st (fa kF rfl)<|st (ld mG rfl ((h.ro a1).x hB (by decide) (by first|omega|(simp;omega)) ((({}:Ct.Node),({}:Lq)),(0:Int)) 3 (.int .u64 (n.aD:Int)) (by rw[hz];rfl)))<|st (mv rfl)<|cl (ca eF rfl) ((Zm n.aD ((Bm.aO n.aD k:Nat):Int) _ (MM S h a3) hb64).mono ?_)
 rintro _ _ ⟨rfl,rfl⟩
 refine⟨_,rfl,?_⟩
 refine st (sg rfl)<|xe<|nx<|sq<|sq<|rg<|st (mv rfl)<|st (bi rfl rfl rfl)<|st (mv rfl)<|gT rfl rfl h1<|st (mv rfl)<|gT rfl rfl h1<|st (mv rfl)<|gT rfl rfl h1<|st (nc rfl rfl)<|gT rfl rfl h1<|st (fa nR rfl)<|gT rfl rfl h1<|st (fa iO rfl)<|gT rfl rfl h1<|st (ld lG rfl ((h.ro a1).x hB (by decide) (by first|omega|(simp;omega)) ((({}:Ct.Node),({}:Lq)),(0:Int)) 4 (.slice pb n.aA.length cb) (by rw[hz];rfl)))<|gT rfl rfl h1<|st (ln iR rfl rfl)<|gT rfl rfl h1<|st (bi rfl rfl rfl)<|st (pF rfl h1 rfl)<|xe<|nx<|ct rfl h2<|sq<|rg<|st (sg rfl)<|st (sg rfl)<|xe<|nx<|rt<|tr<|?_
 refine rr (gE results85 rfl rfl)<|⟨rfl,h⟩
theorem YV(S:dN)[Gc S](ib:Nat)(t:Ct.bC)(sd:Bool)(zs:List ((Ct.Node×Lq)×Int))(wt:List Ct.bN)(j:Nat)(ps pw:Option Addr)(cq cw:Nat)(n:Ct.Node)(pb:Option Addr)(cb:Nat)(pp:Option Addr)(cp:Nat)(k:Int)(s:Ct.St)(h:SH B w (bl ib ([↑t.root,↑t.readOnly,↑sd,.slice ps zs.length cq,.slice pw wt.length cw]) 83::aU 177 15 (.slice ps zs.length cq) zs.length (zs.flatMap eX)::bE (zs.map Prod.fst)::S.a s::L))(hj:zs.length=j+1)(hjm:j<=1000000000)(hz:zs.getD j ((({}:Ct.Node),({}:Lq)),(0:Int))=((n,(⟨pb,cb,pp,cp⟩:Lq)),k))(hb64:n.aD<18446744073709551616)(h1:(decide ((⟨n,k⟩:Ct.Place).idx<0))=false)(h2:(decide ((n.aA.length:Int)<=(((⟨n,k⟩:Ct.Place).pos:Nat):Int)))=false)(h3:(⟨n,k⟩:Ct.Place).idx<=64):
  Calls prog 85 #[↑ib] w λe w'=>e=.returned (.tuple #[.int .i64 (⟨n,k⟩:Ct.Place).branch,↑true])/\SH B w' (bl ib ([↑t.root,↑t.readOnly,↑sd,.slice ps zs.length cq,.slice pw wt.length cw]) 83::aU 177 15 (.slice ps zs.length cq) zs.length ((zs.set j ((n,(⟨pb,cb,pp,cp⟩:Lq)),(⟨n,k⟩:Ct.Place).idx+1)).flatMap eX)::bE (zs.map Prod.fst)::S.a s::L):=by
 refine Ea (args:=[_]) func85 rfl ntmps85 rfl ?_
 refine sq<|rg<|st (sg rfl)<|st (sg rfl)<|xe<|nx<|sq<|?_
 obtain⟨b1,rfl⟩:=h.fp a1 (by omega)
 refine dZ [1,3,5,7,9,11,13,15,17,19,21,22] (by kernel_rfl) h (.c r0 .n) λw h=>tk (λW H=>mv rfl)<|tk (λW H=>nc rfl rfl)<|tk (λW H=>fa nB rfl)<|tk (λW H=>ld uD rfl (H.c a0 rfl))<|tk (λW H=>mv rfl)<|tk (λW H=>nc rfl rfl)<|tk (λW H=>fa nB rfl)<|tk (λW H=>ld uD rfl (H.c a0 rfl))<|tk (λW H=>ln zY rfl rfl)<|tk (λW H=>bw rfl rfl (zW (c:=(j:Int)) (by omega) (by omega) (by omega)))<|tk (λW H=>ix (j:=j) zY Oo rfl rfl (by omega))<|ef (sg rfl) (h.hs (.c r0 .n))<|xz<|nx<|sq<|dZ [1,3,5,7,9,11,13,15,17,18,20] (by kernel_rfl) h (.c r1 .n) λw h=>tk (λW H=>mv rfl)<|tk (λW H=>nc rfl rfl)<|tk (λW H=>fa nR rfl)<|tk (λW H=>fa kF rfl)<|tk (λW H=>ld mG rfl ((H.ro a0).x hB (by decide) (by first|omega|(simp;omega)) ((({}:Ct.Node),({}:Lq)),(0:Int)) 3 (.int .u64 (n.aD:Int)) (by rw[hz];rfl)))<|tk (λW H=>mv rfl)<|tk (λW H=>nc rfl rfl)<|tk (λW H=>fa Eb rfl)<|tk (λW H=>ld jE rfl ((H.ro a0).x hB (by decide) (by first|omega|(simp;omega)) ((({}:Ct.Node),({}:Lq)),(0:Int)) 14 (.int .i64 k) (by rw[hz];rfl)))<|cs (ca eF rfl) ((tE n.aD k _ hb64).mono ?_)
 rintro _ _ ⟨rfl,rfl⟩
 refine⟨_,rfl,h.hs (.c r1 .n),?_⟩
 refine ef (sg rfl) (h.hs (.c r1 .n))<|xz<|nx<|sq<|rg<|st (mv rfl)<|st (nc rfl rfl)<|st (fa nR rfl)<|st (fa kF rfl)<|st (ld mG rfl ((h.ro a1).x hB (by decide) (by first|omega|(simp;omega)) ((({}:Ct.Node),({}:Lq)),(0:Int)) 3 (.int .u64 (n.aD:Int)) (by rw[hz];rfl)))<|st (mv rfl)<|cl (ca eF rfl) ((Zm n.aD ((Bm.aO n.aD k:Nat):Int) _ (MM S h a3) hb64).mono ?_)
 rintro _ _ ⟨rfl,rfl⟩
 refine⟨_,rfl,?_⟩
 refine st (sg rfl)<|xe<|nx<|sq<|sq<|rg<|st (mv rfl)<|st (bi rfl rfl rfl)<|st (mv rfl)<|gT rfl rfl h1<|st (mv rfl)<|gT rfl rfl h1<|st (mv rfl)<|gT rfl rfl h1<|st (nc rfl rfl)<|gT rfl rfl h1<|st (fa nR rfl)<|gT rfl rfl h1<|st (fa iO rfl)<|gT rfl rfl h1<|st (ld lG rfl ((h.ro a1).x hB (by decide) (by first|omega|(simp;omega)) ((({}:Ct.Node),({}:Lq)),(0:Int)) 4 (.slice pb n.aA.length cb) (by rw[hz];rfl)))<|gT rfl rfl h1<|st (ln iR rfl rfl)<|gT rfl rfl h1<|st (bi rfl rfl rfl)<|st (pF rfl h1 rfl)<|xe<|nx<|cf rfl h2<|sk<|nx<|sq<|?_
 have h:=SH.Ll h a2 (z:=(n,(⟨pb,cb,pp,cp⟩:Lq))) (List.mem_map.2 ⟨_,get_mem (by omega) hz,rfl⟩)
 have h:SH B w (bV 1 (.slice pb n.aA.length cb) n.aA.length (n.aA.map (Value.int .i64))::bV 2 (.slice pp n.aF.length cp) n.aF.length (n.aF.flatMap aR)::bl ib ([↑t.root,↑t.readOnly,↑sd,.slice (some ⟨b1,0,none⟩) zs.length cq,.slice pw wt.length cw]) 83::aU 177 15 (.slice (some ⟨b1,0,none⟩) zs.length cq) zs.length (zs.flatMap eX)::bE (zs.map Prod.fst)::S.a s::L):=SH.se (l:=[aY n (⟨pb,cb,pp,cp⟩),cH n (⟨pb,cb,pp,cp⟩)]) h
 have h4:0<=(⟨n,k⟩:Ct.Place).idx:=by have:=dP h1;omega
 have h5:Bm.aO n.aD k<n.aA.length:=by have:=dP h2;unfold Ct.Place.pos at this;dsimp only at this;omega
 have h6:Bm.at_ n.aD ((Bm.aO n.aD k:Nat):Int)<=64:=h3
 have h7:0<=Bm.at_ n.aD ((Bm.aO n.aD k:Nat):Int):=h4
 refine rg<|st (mv rfl)<|st (mv rfl)<|st (bw rfl rfl (gN (c:=Bm.at_ n.aD ((Bm.aO n.aD k:Nat):Int)+1) (by omega) (by omega) (by omega)))<|st (nc rfl rfl)<|st (fa Eb rfl)<|sf (N4 (i:=j) (o:=14) h Bf rfl rfl (by omega) u3)<|?_
 rintro _ w h
 rw[TB zs j (Bm.at_ n.aD ((Bm.aO n.aD k:Nat):Int)+1) (by omega),hz]at h
 have e2:(zs.set j ((n,(⟨pb,cb,pp,cp⟩:Lq)),Bm.at_ n.aD ((Bm.aO n.aD k:Nat):Int)+1)).getD j ((({}:Ct.Node),({}:Lq)),(0:Int))=((n,(⟨pb,cb,pp,cp⟩:Lq)),Bm.at_ n.aD ((Bm.aO n.aD k:Nat):Int)+1):=AZ (by omega)
 refine xe<|nx<|sq<|rg<|st (mv rfl)<|st (nc rfl rfl)<|st (fa nR rfl)<|st (fa iO rfl)<|st (ld lG rfl ((h.ro a3).x hB (by decide) (by first|omega|(simp;omega)) ((({}:Ct.Node),({}:Lq)),(0:Int)) 4 (.slice pb n.aA.length cb) (by rw[e2];rfl)))<|st (mv rfl)<|?_
 obtain⟨b3,o4,rfl⟩:=h.fq a0 (by omega)
 refine st (ix (j:=Bm.aO n.aD k) iR tL rfl rfl (by omega))<|st (ld gI rfl ((h.rr a0).i (by omega)))<|st (sg rfl)<|st (sg rfl)<|xe<|nx<|rt<|?_
 refine rr (gE results85 rfl rfl)<|⟨rfl,h.drop.drop⟩
theorem RJ{b x:Nat}(h:x∈Bm.indices b):x<64:=by
 unfold Bm.indices Bm.Nu at h
 have:=(List.mem_filter.1 h).1
 exact List.mem_range.1 this
theorem YP(p:Ct.Place)(hb:p.node.aD<18446744073709551616):p.idx<=64:=by
 unfold Ct.Place.idx Bm.at_
 split
 ·rename_i h
  have hm:=qR (l:=Bm.indices p.node.aD) (n:=((p.pos:Int)).toNat) (by omega)
  have:=RJ hm
  rw[Fb,fM (by omega)]
  simp only[Option.getD_some];omega
 ·omega
def HP(zs:List ((Ct.Node×Lq)×Int))(j:Nat)(n:Ct.Node)(q:Lq)(k:Int):List ((Ct.Node×Lq)×Int):=bif (⟨n,k⟩:Ct.Place).out then zs else zs.set j ((n,q),(⟨n,k⟩:Ct.Place).idx+1)
def SK(n:Ct.Node)(k:Int):Int:=bif (⟨n,k⟩:Ct.Place).out then 0 else(⟨n,k⟩:Ct.Place).branch
theorem Vb(S:dN)[Gc S](ib:Nat)(t:Ct.bC)(sd:Bool)(zs:List ((Ct.Node×Lq)×Int))(wt:List Ct.bN)(j:Nat)(ps pw:Option Addr)(cq cw:Nat)(n:Ct.Node)(pb:Option Addr)(cb:Nat)(pp:Option Addr)(cp:Nat)(k:Int)(s:Ct.St)(h:SH B w (bl ib ([↑t.root,↑t.readOnly,↑sd,.slice ps zs.length cq,.slice pw wt.length cw]) 83::aU 177 15 (.slice ps zs.length cq) zs.length (zs.flatMap eX)::bE (zs.map Prod.fst)::S.a s::L))(hj:zs.length=j+1)(hjm:j<=1000000000)(hz:zs.getD j ((({}:Ct.Node),({}:Lq)),(0:Int))=((n,(⟨pb,cb,pp,cp⟩:Lq)),k))(hb64:n.aD<18446744073709551616):
  Calls prog 85 #[↑ib] w λe w'=>e=.returned (.tuple #[.int .i64 (SK n k),.bool (!(⟨n,k⟩:Ct.Place).out)])/\SH B w' (bl ib ([↑t.root,↑t.readOnly,↑sd,.slice ps zs.length cq,.slice pw wt.length cw]) 83::aU 177 15 (.slice ps zs.length cq) zs.length ((HP zs j n ⟨pb,cb,pp,cp⟩ k).flatMap eX)::bE (zs.map Prod.fst)::S.a s::L):=by
 unfold HP SK
 cases h1:decide ((⟨n,k⟩:Ct.Place).idx<0)with
 |true=>
  have ho:(⟨n,k⟩:Ct.Place).out=true:=by unfold Ct.Place.out;rw[h1];rfl
  rw[ho];exact SU S ib t sd zs wt j ps pw cq cw n pb cb pp cp k s h hj hjm hz hb64 h1
 |false=>
  cases h2:decide ((n.aA.length:Int)<=(((⟨n,k⟩:Ct.Place).pos:Nat):Int))with
  |true=>
   have ho:(⟨n,k⟩:Ct.Place).out=true:=by unfold Ct.Place.out;rw[h1,h2];rfl
   rw[ho];exact PT S ib t sd zs wt j ps pw cq cw n pb cb pp cp k s h hj hjm hz hb64 h1 h2
  |false=>
   have ho:(⟨n,k⟩:Ct.Place).out=false:=by unfold Ct.Place.out;rw[h1,h2];rfl
   rw[ho];exact YV S ib t sd zs wt j ps pw cq cw n pb cb pp cp k s h hj hjm hz hb64 h1 h2 (YP _ hb64)
theorem Li(p:Ct.bN)(h:SH B w (L)):
  Calls prog 84 #[.agg (aR p).toArray] w λe w'=>e=.returned (.agg (zQ (EY (Ct.Ey p))).toArray)/\SH B w' L:=by
 refine Ea (args:=[_]) func84 rfl ntmps84 rfl ?_
 refine sq<|rg<|sf (bx h rfl rfl)<|?_
 rintro _ w ⟨b1,rfl,h⟩
 refine sf (al h kU)<|?_
 rintro _ w ⟨b2,rfl,h⟩
 refine xe<|nx<|sq<|rg<|st (fa Il rfl)<|st (ld uK rfl (h.c a1 rfl))<|st (fa JK rfl)<|st (ld mG rfl (h.c a1 rfl))<|st (bd [.int .i64 0,↑true,.int .u64 (p.value:Int),↑p.key,.int .i64 0,.int .i64 0,.int .i64 0,↑false] Cy rfl (by kernel_rfl))<|cl (ca eF rfl) ((gV ({found:=true,value:=p.value,key:=p.key}:Ct.Result) (h.fr .n)).mono ?_)
 rintro _ w ⟨rfl,h⟩
 refine⟨_,rfl,?_⟩
 refine sf (so h rfl rfl rfl fZ (eO _) (.r (.r (.r (.r (.r (.r (.r (.r (.r (.r (.r (.r (.r (.r .d)))))))))))))) u0)<|?_
 rintro _ w h
 refine xe<|nx<|rt<|?_
 refine rr (bP results84 rfl (h.b a0) fK)<|⟨rfl,h.drop.drop⟩
theorem KF(ib:Nat)(t:Ct.bC)(sd:Bool)(plc:List Ct.Place)(n:Ct.Node)(q:Lq)(h:SH B w (vV ib t ⟨sd,plc,[]⟩::aM n q::L))(hf:n.Fit 100000000001)(hsl:plc.length<=1000000000):
  Calls prog 90 #[↑ib,.agg (aL n q).toArray] w λe w'=>e=.returned (.tuple #[])/\SH B w' (vV ib t (Ct.jG.meet ⟨sd,plc,[]⟩ n)::L):=by
 obtain⟨⟨ps,cq,pw,cw,zs⟩,hq,h⟩:=SH.VU h
 dsimp only at hq
 have h:SH B w (bl ib ([↑t.root,↑t.readOnly,↑sd,.slice ps zs.length cq,.slice pw 0 cw]) 83::aU 177 15 (.slice ps zs.length cq) zs.length (zs.flatMap eX)::bE (zs.map Prod.fst)::Gy 150 2 (.slice pw 0 cw) 0 []::aM n q::L):=h
 have hzl:zs.length=plc.length:=by rw[<- hq];simp
 have hpl:=hf.1.2.1
 refine Ea (args:=[_,_]) func90 rfl ntmps90 rfl ?_
 refine sq<|rg<|sf (bx h rfl rfl)<|?_
 rintro _ w ⟨b1,rfl,h⟩
 refine xe<|nx<|sq<|rg<|st (fa nW rfl)<|st (ld jE rfl (h.c a0 rfl))<|xe<|nx<|bk<|sq<|rg<|st (bi rfl rfl rfl)<|st (sg rfl)<|xe<|nx<|?_
 rcases bI ((n.kind:Int)==3)with hd2|hd2
 have hg3:=eq_of_beq hd2
 refine ct rfl hd2<|Uc (F:=[bl ib ([↑t.root,↑t.readOnly,↑sd,.slice ps zs.length cq,.slice pw 0 cw]) 83,bl b1 (aL n q) 118]) [(true,[1,3,5,7,9,11,13,14,16,19,21]),(false,[22])] (by kernel_rfl) h (λw h=>(hC (h.at_ a1) (hC (h.at_ a0) hN))) λw h=>VP<|tk (λW H=>mv rfl)<|tk (λW H=>mv rfl)<|tk (λW H=>nc rfl rfl)<|tk (λW H=>fa nB rfl)<|tk (λW H=>ld uD rfl (H.c a0 rfl))<|tk (λW H=>gJ rfl (dK (H.b a1)) fS)<|tk (λW H=>bd [↑n.kind,↑n.gen,↑n.main,.int .u64 (n.aD:Int),.slice q.pb n.aA.length q.cb,.int .u64 (n.hash:Int),↑n.key,.int .u64 (n.value:Int),.slice q.pp n.aF.length q.cp,↑n.prev,↑n.dC,↑n.aK,↑n.new,↑n.status,.int .i64 0] ZR rfl (by kernel_rfl))<|ff (bu [↑n.kind,↑n.gen,↑n.main,.int .u64 (n.aD:Int),.slice q.pb n.aA.length q.cb,.int .u64 (n.hash:Int),↑n.key,.int .u64 (n.value:Int),.slice q.pp n.aF.length q.cp,↑n.prev,↑n.dC,↑n.aK,↑n.new,↑n.status,.int .i64 0] h zY KC rfl (by kernel_rfl) rfl (by decide) (by decide))<|?_
 rintro _ w ⟨b4,rfl,h⟩
 refine⟨(hC (h.at_ a2) (hC (h.at_ a1) hN)),?_⟩
 refine ff (ap h zY rfl KC rfl (by decide) rfl rfl (λ_=>u3) (h.ro a0) (by simp[Value.oneCell']) (VO zs ((n,q),(0:Int))) (fW (enc:=eX) zs ((n,q),(0:Int))) (by unfold maxLen;simp;omega) (by simp;omega))<|?_
 rintro _ w ⟨p5,c6,rfl,h⟩
 refine⟨(hC (h.at_ a2) (hC (h.at_ a1) hN)),?_⟩
 refine tk (λW H=>nc rfl rfl)<|tk (λW H=>fa nB rfl)<|Zp<|ff (so h rfl rfl rfl WD rfl (.s (.s (.s (.r .d)))) u2)<|?_
 rintro _ w h
 refine⟨trivial,?_⟩
 refine xz<|bn<|?_
 refine rn (rK results90)<|?_
 have em:Ct.jG.meet ⟨sd,plc,[]⟩ n=⟨sd,⟨n,0⟩::plc,[]⟩:=by unfold Ct.jG.meet;rw[show (n.kind==3)=true from hd2];rfl
 rw[em]
 have h:=SH.HU (SH.se (l:=[aY n q,cH n q]) (h.fr (.c r6 (.c r4 .n))))
 rw[show zs.map Prod.fst++[(n,q)]=(zs++[((n,q),(0:Int))]).map Prod.fst by simp]at h
 exact⟨rfl,SH.BR ⟨p5,c6,pw,cw,zs++[((n,q),(0:Int))]⟩ (by rw[tX,List.reverse_append,hq];rfl) ((h.fr (.c r1 (.c r1 .n))).drop.drop.fr (.c r1 (.c r1 (.c r0 (.c r0 .n)))))⟩
 have hg7:=mD hd2
 refine cf rfl hd2<|sq<|rg<|st (bi rfl rfl rfl)<|st (sg rfl)<|xe<|nx<|?_
 rcases bI ((n.kind:Int)==5)with hd8|hd8
 have hg9:=eq_of_beq hd8
 refine ct rfl hd8<|Uc (F:=[bl ib ([↑t.root,↑t.readOnly,↑sd,.slice ps zs.length cq,.slice pw 0 cw]) 83,bl b1 (aL n q) 118]) [(true,[1,3,5,7,9,11,13,15,17,19,20,22,25,27]),(false,[28])] (by kernel_rfl) h (λw h=>(hC (h.at_ a1) (hC (h.at_ a0) hN))) λw h=>VP<|tk (λW H=>mv rfl)<|tk (λW H=>mv rfl)<|tk (λW H=>nc rfl rfl)<|tk (λW H=>fa pN rfl)<|tk (λW H=>ld oP rfl (H.c a0 rfl))<|tk (λW H=>fa vS rfl)<|tk (λW H=>ld uK rfl (H.c a1 rfl))<|tk (λW H=>fa Ul rfl)<|tk (λW H=>ld mG rfl (H.c a1 rfl))<|tk (λW H=>bd [↑n.key,.int .u64 (n.value:Int)] JZ rfl (by kernel_rfl))<|ff (bu [↑n.key,.int .u64 (n.value:Int)] h oW Jk rfl (by kernel_rfl) rfl (by decide) (by decide))<|?_
 rintro _ w ⟨b10,rfl,h⟩
 refine⟨(hC (h.at_ a2) (hC (h.at_ a1) hN)),?_⟩
 refine ff (G8 h a5 (w6 h a0 oW (by simp[Value.oneCell'])) oW rfl Jk rfl (by decide) rfl rfl (λ_=>u5) (by unfold maxLen;omega) (by omega))<|?_
 rintro _ w ⟨p11,c12,rfl,h⟩
 refine⟨(hC (h.at_ a2) (hC (h.at_ a1) hN)),?_⟩
 refine tk (λW H=>nc rfl rfl)<|tk (λW H=>fa pN rfl)<|Zp<|ff (so h rfl rfl rfl DA rfl (.s (.s (.s (.s (.r .d))))) u2)<|?_
 rintro _ w h
 refine⟨trivial,?_⟩
 refine xz<|bn<|?_
 refine rn (rK results90)<|?_
 have em:Ct.jG.meet ⟨sd,plc,[]⟩ n=⟨sd,plc,[⟨n.key,n.value⟩]⟩:=by unfold Ct.jG.meet;rw[show (n.kind==3)=false from hd2,show (n.kind==5)=true from hd8];rfl
 rw[em]
 exact⟨rfl,SH.BR ⟨ps,cq,p11,c12,zs⟩ hq (h.fr (.c r0 (.c r0 (.c r4 .n)))).drop.drop.drop⟩
 have hg13:=mD hd8
 refine cf rfl hd8<|sq<|rg<|st (bi rfl rfl rfl)<|st (sg rfl)<|xe<|nx<|?_
 rcases bI ((n.kind:Int)==6)with hd14|hd14
 have hg15:=eq_of_beq hd14
 refine ct rfl hd14<|Uc (F:=[bl ib ([↑t.root,↑t.readOnly,↑sd,.slice ps zs.length cq,.slice pw 0 cw]) 83,bl b1 (aL n q) 118]) [(true,[1,3,5,7,9,11,12,15,16,19,21]),(false,[22])] (by kernel_rfl) h (λw h=>(hC (h.at_ a1) (hC (h.at_ a0) hN))) λw h=>VP<|tk (λW H=>mv rfl)<|tk (λW H=>mv rfl)<|tk (λW H=>nc rfl rfl)<|tk (λW H=>fa pN rfl)<|tk (λW H=>ld oP rfl (H.c a0 rfl))<|tk (λW H=>gJ rfl (dK (H.b a1)) fS)<|cs (ca eF rfl) ((wP n q (h.fr (.c r5 .n)) hf.1.1 (lK hf.1.2.1 (by omega))).mono ?_)
 rintro _ w ⟨q16,rfl,h⟩
 have h:=SH.se (l:=[aY n q16,cH n q16]) h
 refine⟨_,rfl,(hC (h.at_ a3) (hC (h.at_ a2) hN)),?_⟩
 refine tk (λW H=>fd NX rfl rfl)<|ff (G8 h a6 (t9 h a1 oW (lU eU _)) oW rfl Jk rfl (by decide) rfl rfl (λ_=>u6) (by unfold maxLen;omega) (by omega))<|?_
 rintro _ w ⟨p17,c18,rfl,h⟩
 refine⟨(hC (h.at_ a3) (hC (h.at_ a2) hN)),?_⟩
 refine tk (λW H=>nc rfl rfl)<|tk (λW H=>fa pN rfl)<|Zp<|ff (so h rfl rfl rfl DA rfl (.s (.s (.s (.s (.r .d))))) u3)<|?_
 rintro _ w h
 refine⟨trivial,?_⟩
 refine xz<|bn<|?_
 refine rn (rK results90)<|?_
 have em:Ct.jG.meet ⟨sd,plc,[]⟩ n=⟨sd,plc,n.aF⟩:=by unfold Ct.jG.meet;rw[show (n.kind==3)=false from hd2,show (n.kind==5)=false from hd8,show (n.kind==6)=true from hd14];rfl
 rw[em]
 exact⟨rfl,SH.BR ⟨ps,cq,p17,c18,zs⟩ hq h.drop.drop.drop⟩
 have hg19:=mD hd14
 refine cf rfl hd14<|sk<|bn<|?_
 refine rn (rK results90)<|?_
 have em:Ct.jG.meet ⟨sd,plc,[]⟩ n=⟨sd,plc,[]⟩:=by unfold Ct.jG.meet;rw[show (n.kind==3)=false from hd2,show (n.kind==5)=false from hd8,show (n.kind==6)=false from hd14];rfl
 rw[em]
 exact⟨rfl,SH.BR ⟨ps,cq,pw,cw,zs⟩ hq (h.fr (.c r0 (.c r4 .n))).drop.drop⟩
theorem XJ(S:dN)(pb:Nat)(hd:S.d+1<=349)(N:Nat)(t:Ct.bC)(i v:Int)(b:Bool)(s:Ct.St)(h:SH B w (Jp S pb v b::S.a s::L))(hs:Ct.Rm 60 s):
  Calls prog 87 #[.iface 132 (QQ pb),.agg [↑t.root,↑t.readOnly].toArray,↑i] w λe w'=>∃tb s' u v' b',(Ct.mM t i (λm=>.ret {ref:=m})).head s=(s',u)/\e=.returned (.pointer (some ⟨tb,0,none⟩))/\SH B w' (eQ (nA S pb hd) Ep N tb u 0::Jp S pb v' b'::S.a s'::L):=by
 refine(Vw (nA S pb hd) N t i s (Mi (Mz h)) hs).mono ?_
 rintro e w' ⟨tb,s',u,hq,rfl,h⟩
 obtain⟨v',b',h⟩:=Oq (h.fr (.c r1 .n))
 exact⟨tb,s',u,v',b',hq,rfl,h.fr (.c r2 .n)⟩
def Bo(S:dN)(ib:Nat)(t:Ct.bC)(N n:Nat):Prop:=∀(it:Ct.jG) (B w:World) (L:List As) (s:Ct.St),SH B w (vV ib t it::S.a s::L)->Ct.Rm 60 s->Ct.tF n it->
 Calls prog 62 #[↑ib,S.v] w λe w'=>CP S (Jh ib t) n B (Ct.iN t N it) s L e w'
theorem Sq(S:dN)(hd:S.d+1<=349)(ib:Nat)(t:Ct.bC)(pb:Nat)(hd':S.d+1<=349)(n cb0 cb1:Nat)(sd:Bool)(plc:List Ct.Place)(x:Int)(s:Ct.St)(h:SH B w (bl pb ([S.v,.int .i64 0,↑false]) 134::se [rb cb0 [↑ib] 36,rb cb1 [↑x] 43,vV ib t ⟨sd,plc,[]⟩]::S.a s::L))(hs:Ct.Rm 60 s):
  Calls prog 86 #[.iface 132 ↑pb,↑cb0,↑cb1] w λe w'=>∃tb s1 u1 v1 b1,(Ct.mM t x (λm=>.ret {ref:=m})).head s=(s1,u1)/\e=.returned (.pointer (some ⟨tb,0,none⟩))/\SH B w' (eQ (nA S pb hd') Ep n tb u1 0::Jp S pb v1 b1::vV ib t ⟨sd,plc,[]⟩::S.a s1::L):=by
 have h:=SH.se (l:=[_,_,_]) (h.fr (.c r1 .n))
 obtain⟨⟨ps,cq,pw,cw,zs⟩,hq,h⟩:=SH.VU (h.fr (.c r2 .n))
 dsimp only at hq
 have h:SH B w (bl ib ([↑t.root,↑t.readOnly,↑sd,.slice ps zs.length cq,.slice pw 0 cw]) 83::aU 177 15 (.slice ps zs.length cq) zs.length (zs.flatMap eX)::bE (zs.map Prod.fst)::Gy 150 2 (.slice pw 0 cw) 0 []::rb cb0 ([↑ib]) 36::rb cb1 ([↑x]) 43::bl pb ([S.v,.int .i64 0,↑false]) 134::S.a s::L):=h
 refine Ea (args:=[_,_,_]) func86 rfl ntmps86 rfl ?_
 refine sq<|rg<|st (sg rfl)<|xe<|nx<|sq<|dZ [1,3,5,7,9,11,12,14] (by kernel_rfl) h (.c r4 (.c r0 (.c r3 .n))) λw h=>tk (λW H=>mv rfl)<|tk (λW H=>ld yA rfl (H.B8 a0 rfl))<|tk (λW H=>nc rfl rfl)<|tk (λW H=>fa Hm rfl)<|tk (λW H=>gJ (cs:=[↑t.root,↑t.readOnly]) rfl (eP (H.b a1) 0 rfl) sM)<|tk (λW H=>ld gI rfl (H.B8 a2 rfl))<|cs (ca eF rfl) ((XJ S pb hd' n t x 0 false s (h.fr (.c r6 (.c r6 .n))) hs).mono ?_)
 rintro _ w ⟨tb1,s2,uz3,vz4,bz5,hq6,rfl,h⟩
 refine⟨_,rfl,h.hs (.c r7 (.c r3 (.c r6 .n))),?_⟩
 refine ef (sg rfl) (h.hs (.c r7 (.c r3 (.c r6 .n))))<|xz<|nx<|rt<|?_
 refine rr (jP results86 rfl)<|?_
 have h:=SH.BR (it:=⟨sd,plc,[]⟩) ⟨ps,cq,pw,cw,zs⟩ hq (h.fr (.c r3 (.c r3 (.c r3 (.c r3 .n)))))
 exact⟨tb1,s2,uz3,vz4,bz5,hq6,rfl,((h.fr (.c r4 (.c r4 .n))).drop.drop.fr (.c r1 (.c r1 (.c r0 (.c r0 .n)))))⟩
theorem Nn(S:dN)(hd:S.d+1<=349)(ib:Nat)(t:Ct.bC)(N m cb0 cb1:Nat)(hrec:Bo S ib t N m)(sd:Bool)(plc:List Ct.Place)(r:Ct.Result)(s:Ct.St)(h:SH B w (rb cb0 ([↑ib]) 36::rb cb1 [S.v] 85::se [Xs r,vV ib t ⟨sd,plc,[]⟩]::S.a s::L))(hs:Ct.Rm 70 s)(hok:Ct.tF (m+1) ⟨sd,plc,[]⟩):
  Calls prog 89 #[.agg (Mf r).toArray,↑cb0,↑cb1] w λe w'=>CP S (Jh ib t) m B (.node r.ref λq=>Ct.iN t N (Ct.jG.meet ⟨sd,plc,[]⟩ q)) s L e w':=by
 have h:=SH.se (l:=[_,_]) (h.fr (.c r2 .n))
 have h:=SH.se (l:=[]) h
 have hfq:(s.node r.ref).Fit 100000000001:=(hs.node r.ref).mono (by have:=hs.zP;unfold Ct.St.size at this;omega)
 have hplc:plc.length<=1000000000:=by have:=hok.deep;dsimp only at this;omega
 refine Ea (args:=[_,_,_]) func89 rfl ntmps89 rfl ?_
 refine sq<|rg<|sf (bx h rfl rfl)<|?_
 rintro _ w ⟨b1,rfl,h⟩
 refine sf (al h kU)<|?_
 rintro _ w ⟨b2,rfl,h⟩
 refine xe<|nx<|sq<|?_
 refine dZ [1,3,5,7,8,10] (by kernel_rfl) h (.c r3 (.c r3 (.c r1 .n))) λw h=>tk (λW H=>ld yA rfl (H.B8 a0 rfl))<|tk (λW H=>ld oG rfl (H.B8 a1 rfl))<|tk (λW H=>fa UX rfl)<|tk (λW H=>ld gI rfl (H.c a2 rfl))<|cs (ci (S.sN h a5) rfl rfl) ((cK S s r.ref (h.fr (.c r5 .n)) hs).mono ?_)
 rintro _ w ⟨q3,rfl,h⟩
 refine⟨_,rfl,h.hs (.c r5 (.c r5 (.c r3 .n))),?_⟩
 refine cs (ca eF rfl) ((KF ib t sd plc (s.node r.ref) q3 (h.fr (.c r4 (.c r0 .n))) hfq hplc).mono ?_)
 rintro _ w ⟨rfl,h⟩
 refine⟨_,rfl,h.hs (.c r4 (.c r4 (.c r3 .n))),?_⟩
 refine xz<|nx<|sq<|rg<|st (ld yA rfl (h.B8 a4 rfl))<|st (ld oG rfl (h.B8 a5 rfl))<|cl (ca eF rfl) ((hrec (Ct.jG.meet ⟨sd,plc,[]⟩ (s.node r.ref)) _ _ _ s (h.fr (.c r0 (.c r0 .n))) (hs.less (by decide)) (hok.meet hfq)).mono ?_)
 rintro _ w ⟨s4,t5,c6,hq7,rfl,h⟩
 refine⟨_,rfl,?_⟩
 refine sf (so h rfl rfl rfl fZ (eO _) (.r (.r (.r (.r (.r (.r (.r (.r (.r (.r (.r (.r (.r (.r .d)))))))))))))) u2)<|?_
 rintro _ w h
 refine xe<|nx<|rt<|?_
 refine rr (bP results89 rfl (h.b a2) fK)<|?_
 exact fI (qN (hq7)) (h.fr (.c r2 (.c r2 (.c r2 (.c r2 .n))))).drop.drop.drop.drop
theorem Fy(S:dN)(hd:S.d+1<=349)(ib:Nat)(t:Ct.bC)(N n:Nat)(hn:n<=8000000000000000000)(hrec:∀j,j<n->Bo S ib t N j)(sd:Bool)(plc:List Ct.Place)(x:Int)(s:Ct.St)(h:SH B w (vV ib t (⟨sd,plc,[]⟩)::S.a s::L))(hs:Ct.Rm 60 s)(hok:Ct.tF n ⟨sd,plc,[]⟩):
  Calls prog 65 #[↑ib,S.v,↑x] w λe w'=>CP S (Jh ib t) n B (Ct.qV t N ⟨sd,plc,[]⟩ x) s L e w':=by
 refine Ea (args:=[_,_,_]) func65 rfl ntmps65 rfl ?_
 refine sq<|rg<|sf (bx h rfl rfl)<|?_
 rintro _ w ⟨b1,rfl,h⟩
 refine sf (bx h rfl rfl)<|?_
 rintro _ w ⟨b2,rfl,h⟩
 refine sf (bx h rfl rfl)<|?_
 rintro _ w ⟨b3,rfl,h⟩
 refine sf (al h kU)<|?_
 rintro _ w ⟨b4,rfl,h⟩
 refine xe<|nx<|sq<|?_
 have h:=SH.kX (h.fr (.c r3 .n))
 have h:=SH.kX (h.fr (.c r2 .n))
 refine rg<|st (mf rfl rfl)<|st (sg rfl)<|xe<|nx<|sq<|?_
 have h:=SH.kX (h.fr (.c r3 .n))
 refine rg<|st (ld oG rfl (h.B8 a0 rfl))<|st (mv rfl)<|st (mf rfl rfl)<|?_
 have h:=h.eT a0
 have h:=h.eT a3
 have h:=h.fr (.c r0 (.c r0 .n))
 have h:=d9 (S:=S) (F:=Jh ib t) (n:=n) (j:=70) (args:=Ek id) (Q:=λ_ _=>True) (M:=λb=>se [Xs b,vV ib t ⟨sd,plc,[]⟩]) (k:=(λr:Ct.Result=>.node r.ref λq=>Ct.iN t N (Ct.jG.meet ⟨sd,plc,[]⟩ q))) (v:=(.fn 89 [] [↑b1,↑b2])) [rb b1 [↑ib] 36,rb b2 [S.v] 85] h λm' hm' B' w' L' s' x' _ h' hs'=>pR eF (Nn S hd ib t N m' b1 b2 (hrec m' hm') sd plc x' s' h' hs' (hok.less hm'))
 have h:=SH.is (l:=[rb b1 [↑ib] 36,rb b3 [↑x] 43,vV ib t ⟨sd,plc,[]⟩]) (h.fr (.c r3 (.c r2 (.c r3 .n))))
 refine cl (ca eF rfl) ((GF S hd id Xs (vV ib t ⟨sd,plc,[]⟩) (se [rb b1 [↑ib] 36,rb b3 [↑x] 43,vV ib t ⟨sd,plc,[]⟩]) (λ_ _=>True) (Jh ib t) (λ_ _ _ _ h=>h) n (.fn 86 [] [↑b1,↑b3]) (.fn 89 [] [↑b1,↑b2]) (λr:Ct.Result=>.node r.ref λq=>Ct.iN t N (Ct.jG.meet ⟨sd,plc,[]⟩ q)) (Ct.mM t x λm=>.ret {ref:=m}) s (λB w L pb hd' h=>pR eF (Sq S hd ib t pb hd' n b1 b3 sd plc x s h hs)) (h.fr (.c r0 (.c r0 (.c r2 .n)))) hs (Ct.Ka λ_=>Ct.Dj) (Ct.nK _ _) rfl hn).mono ?_)
 rintro _ w ⟨s5,t6,c7,hq8,rfl,h⟩
 refine⟨_,rfl,?_⟩
 refine sf (so h rfl rfl rfl fZ (eO _) (.r (.r (.r (.r (.r (.r (.r (.r (.r (.r (.r (.r (.r (.r .d)))))))))))))) u3)<|?_
 rintro _ w h
 refine xe<|nx<|rt<|?_
 refine rr (bP results65 rfl (h.b a3) fK)<|?_
 exact fI ((Ct.JY t N ⟨sd,plc,[]⟩ x s).trans (hq8)) (h.fr (.c r2 (.c r2 .n))).drop.drop
theorem rev_last{zs:List ((Ct.Node×Lq)×Int)}{j:Nat}{z d:(Ct.Node×Lq)×Int}(hj:zs.length=j+1)(hz:zs.getD j d=z):(zs.map Pw).reverse=Pw z::((zs.take j).map Pw).reverse:=by
 have h1:zs=zs.take j++[z]:=by
  rw[<- hz,Fb,fM (by omega)]
  conv=>lhs;rw[<- RF j zs,cE (by omega)]
  rw[MA (by omega)];rfl
 conv=>lhs;rw[h1]
 simp
theorem AR{zs:List ((Ct.Node×Lq)×Int)}{j:Nat}{x:(Ct.Node×Lq)×Int}(hj:zs.length=j+1):((zs.set j x).map Pw).reverse=Pw x::((zs.take j).map Pw).reverse:=by
 have h:=rev_last (zs:=zs.set j x) (j:=j) (z:=x) (d:=x) (by simpa using hj) (AZ (by omega))
 rw[h];congr 3
 rw[List.take_set_of_le (bD _)]
theorem SH.ZL{xs ys:List (Ct.Node×Lq)}(h:SH B w (bE xs::L))(hs:∀z∈ys,z∈xs):SH B w (bE ys::L):=h.imp λO R hA=>⟨hA.1,λz hz=>hA.2.1 z (hs z hz),hA.2.2⟩
theorem SH.D7{e:TypeId}{sz m c k:Nat}{p:Option Addr}{xs:List Value}(h:SH B w (aU e sz (.slice p m c) m xs::L))(hk:k<=m):SH B w (aU e sz (.slice p k c) k (xs.take (k*sz))::L):=h.imp λO R hA=>by
 refine⟨⟨?_,?_⟩,λj=>by rw[hA.2.1 j];cases p<;>rfl,hA.2.2⟩
 ·rw[Hg,hA.1.1];exact jI (Bq _ hk)
 ·rcases hA.1.2 with⟨h1,h2⟩|⟨g,cap,cur,h1,h2,h3,h4,h5,h6,h7⟩
  ·injection h1 with h1 _ h8;subst h1 h8;obtain rfl:k=0:=by omega
   exact .inl ⟨rfl,rfl⟩
  ·injection h1 with h1 _ h8;subst h1 h8
   exact .inr ⟨g,c,cur,rfl,h2,h3,by omega,h5,h6,by rw[<- h7,List.take_take,jI (Bq _ hk)]⟩
theorem s8{n:Ct.Node}{M:Nat}(h:n.Fit M):n.aD<18446744073709551616:=h.1.2.2.1
theorem ZA{w:World}{b o:Nat}{m:Nat}{p:Ct.bN}{wt:List Ct.bN}(h:Rd w b o 2 m ((p::wt).flatMap aR)):∀j v,(aR p)[j]?=some v->w.cell? ⟨b,o+0*2+j,none⟩=some v:=λj v hv=>by
 have:=h.2 j v (by rw[dI,xD (List.getElem?_eq_some_iff.1 hv).1];exact hv)
 simpa using this
theorem Fw(S:dN)(ib:Nat)(t:Ct.bC)(N n:Nat)(sd:Bool)(plc:List Ct.Place)(p:Ct.bN)(wt:List Ct.bN)(s:Ct.St)(h:SH B w (vV ib t ⟨sd,plc,p::wt⟩::S.a s::L))(hwl:wt.length<=200000000003):
  Calls prog 62 #[↑ib,S.v] w λe w'=>CP S (Jh ib t) n B (Ct.Fq t (Ct.iN t N) ⟨sd,plc,p::wt⟩) s L e w':=by
 obtain⟨⟨ps,cq,pw,cw,zs⟩,hq,h⟩:=SH.VU h
 dsimp only at hq
 have h:SH B w (bl ib ([↑t.root,↑t.readOnly,↑sd,.slice ps zs.length cq,.slice pw (wt.length+1) cw]) 83::aU 177 15 (.slice ps zs.length cq) zs.length (zs.flatMap eX)::bE (zs.map Prod.fst)::Gy 150 2 (.slice pw (wt.length+1) cw) (wt.length+1) ((p::wt).flatMap aR)::S.a s::L):=h
 refine Ea (args:=[_,_]) func62 rfl ntmps62 rfl ?_
 refine sq<|rg<|sf (al h kU)<|?_
 rintro _ w ⟨b1,rfl,h⟩
 refine xe<|nx<|bk<|?_
 refine lp (α:=Nat) (λρ=>(.c 0 ↑ib (.c 1 (S.v) (.c 4 ↑b1 .n)))) (λρ w=>SH B w (bl b1 ([.int .i64 0,.int .i64 0,.int .i64 0,.int .i64 0,.nilFunc,.nilFunc,.int .i64 0,↑false,.int .u64 0,.string .empty,.int .i64 0,.int .i64 0,.int .i64 0,↑false]) 92::bl ib ([↑t.root,↑t.readOnly,↑sd,.slice ps zs.length cq,.slice pw (wt.length+1) cw]) 83::aU 177 15 (.slice ps zs.length cq) zs.length (zs.flatMap eX)::bE (zs.map Prod.fst)::Gy 150 2 (.slice pw (wt.length+1) cw) (wt.length+1) ((p::wt).flatMap aR)::S.a s::L)/\True) (λρ=>0) 0 ⟨rfl,rfl,rfl,trivial⟩ ⟨h,trivial⟩ ?_
 rintro z w ⟨h,hz0⟩
 refine bk<|sq<|sq<|rg<|st (mv rfl)<|st (nc rfl rfl)<|st (fa pN rfl)<|st (ld oP rfl (h.c a1 rfl))<|st (ln oW rfl rfl)<|st (bi rfl rfl rfl)<|xe<|nx<|ct rfl (eC (by omega))<|sq<|rg<|st (mv rfl)<|st (nc rfl rfl)<|st (fa pN rfl)<|st (ld oP rfl (h.c a1 rfl))<|?_
 obtain⟨b2,o3,rfl⟩:=h.L7 a4 (by omega)
 refine st (ix (j:=0) oW Eo rfl rfl (by omega))<|st (gJ (cs:=aR p) rfl (ZA (h.wr a4)) Nj)<|sf (al h Xz)<|?_
 rintro _ w ⟨b4,rfl,h⟩
 refine sf (so h rfl rfl rfl Eo rfl (.r (.r .d)) u0)<|?_
 rintro _ w h
 refine xe<|nx<|sq<|rg<|st (mv rfl)<|st (mv rfl)<|st (nc rfl rfl)<|st (fa pN rfl)<|st (ld oP rfl (h.c a2 rfl))<|st (YD (k:=1) oW Eo rfl rfl (by omega) (h.D3 a5))<|?_
 have h:=SH.I5 (k:=1) (h.fr (.c r5 .n)) (by omega)
 have h:SH B w (Gy 150 2 (.slice (tl (some ⟨b2,o3,none⟩) cw 1 2) wt.length (cw-1)) wt.length (wt.flatMap aR)::bl b4 (aR p) 150::bl b1 ([.int .i64 0,.int .i64 0,.int .i64 0,.int .i64 0,.nilFunc,.nilFunc,.int .i64 0,↑false,.int .u64 0,.string .empty,.int .i64 0,.int .i64 0,.int .i64 0,↑false]) 92::bl ib ([↑t.root,↑t.readOnly,↑sd,.slice ps zs.length cq,.slice (some ⟨b2,o3,none⟩) (wt.length+1) cw]) 83::aU 177 15 (.slice ps zs.length cq) zs.length (zs.flatMap eX)::bE (zs.map Prod.fst)::S.a s::L):=h
 refine st (nc rfl rfl)<|st (fa pN rfl)<|sf (so h rfl rfl rfl DA rfl (.s (.s (.s (.s (.r .d))))) u3)<|?_
 rintro _ w h
 refine xe<|nx<|sq<|rg<|st (gJ rfl (dK (h.b a1)) Nj)<|cl (ca eF rfl) ((Li p (h.fr .n)).mono ?_)
 rintro _ w ⟨rfl,h⟩
 refine⟨_,rfl,?_⟩
 refine sf (so h rfl rfl rfl fZ (eO _) (.r (.r (.r (.r (.r (.r (.r (.r (.r (.r (.r (.r (.r (.r .d)))))))))))))) u2)<|?_
 rintro _ w h
 refine xe<|nx<|rt<|tr<|bt<|tr<|bt<|?_
 refine rr (bP results62 rfl (h.b a2) fK)<|?_
 have h:=SH.BR (it:=⟨sd,plc,wt⟩) ⟨ps,cq,(tl (some ⟨b2,o3,none⟩) cw 1 2),(cw-1),zs⟩ hq (h.fr (.c r3 (.c r3 (.c r3 (.c r0 .n)))))
 have h:=kG (S:=S) (n:=n) (ρ:=Prod.fst) (M:=λz=>vV ib t z.2) (Ct.Ey p,⟨sd,plc,wt⟩) h
 exact fI rfl (h.fr (.c r1 (.c r1 .n))).drop.drop
theorem r9{e:TypeId}{sz m c:Nat}{p:Option Addr}{xs:List Value}(h:SH B w L)(m':At L (aU e sz (.slice p m c) m xs)):m<=c:=by
 obtain⟨_,_,hA⟩:=h.at_ m'
 rcases hA.1.2 with⟨h1,h2⟩|⟨g,cap,cur,h1,_,_,h3,_⟩
 ·omega
 ·injection h1 with _ _ h1;omega
theorem AW{zs:List ((Ct.Node×Lq)×Int)}{j:Nat}{x d:(Ct.Node×Lq)×Int}{k:Int}(hj:zs.length=j+1)(hz:zs.getD j d=(x.1,k)):∀z∈(zs.set j x).map Prod.fst,z∈zs.map Prod.fst:=λz hm=>by
 obtain⟨a,ha,rfl⟩:=List.mem_map.1 hm
 rcases List.mem_or_eq_of_mem_set ha with ha|rfl
 ·exact List.mem_map.2 ⟨a,ha,rfl⟩
 ·exact List.mem_map.2 ⟨_,get_mem (by omega) hz,rfl⟩
theorem ME{zs:List ((Ct.Node×Lq)×Int)}{j:Nat}:∀z∈(zs.take j).map Prod.fst,z∈zs.map Prod.fst:=λz hm=>by
 obtain⟨a,ha,rfl⟩:=List.mem_map.1 hm
 exact List.mem_map.2 ⟨a,Br ha,rfl⟩
theorem L5{zs:List ((Ct.Node×Lq)×Int)}{j N:Nat}{nd:Ct.Node}{q:Lq}{k v:Int}{d:(Ct.Node×Lq)×Int}{sd:Bool}(hfz:∀z∈zs,z.1.1.Fit 100000000001)(hj:zs.length=j+1)(hz:zs.getD j d=((nd,q),k))(hdp:zs.length+N<=1000000000):Ct.tF N ⟨sd,⟨nd,v⟩::((zs.take j).map Pw).reverse,[]⟩:=by
 refine⟨λp hp=>?_,?_,by simp⟩
 ·rcases List.mem_cons.1 hp with rfl|hp
  ·exact hfz _ (get_mem (by omega) hz)
  ·obtain⟨a,ha,rfl⟩:=List.mem_map.1 (List.mem_reverse.1 hp)
   exact hfz a (Br ha)
 ·simp only[Qb,List.length_reverse,mI,Hg];omega
theorem Fp(S:dN)[Gc S](hd:S.d+1<=349)(ib:Nat)(t:Ct.bC)(N n:Nat)(hn:n<=8000000000000000000)(hrec:∀j,j<n->Bo S ib t N j)(sd:Bool)(plc:List Ct.Place)(s:Ct.St)(h:SH B w (vV ib t (⟨sd,plc,[]⟩)::S.a s::L))(hs:Ct.Rm 60 s)(hok:Ct.tF n ⟨sd,plc,[]⟩):
  Calls prog 62 #[↑ib,S.v] w λe w'=>CP S (Jh ib t) n B (Ct.Fq t (Ct.iN t N) ⟨sd,plc,[]⟩) s L e w':=by
 obtain⟨⟨ps,cq,pw,cw,zs0⟩,hq,h⟩:=SH.VU h
 dsimp only at hq
 have h:SH B w (bl ib ([↑t.root,↑t.readOnly,↑sd,.slice ps zs0.length cq,.slice pw 0 cw]) 83::aU 177 15 (.slice ps zs0.length cq) zs0.length (zs0.flatMap eX)::bE (zs0.map Prod.fst)::Gy 150 2 (.slice pw 0 cw) 0 []::S.a s::L):=h
 have hfz0:∀z∈zs0,z.1.1.Fit 100000000001:=λz hm=>hok.fit (Pw z) (by dsimp only;rw[<- hq];exact List.mem_reverse.2 (List.mem_map.2 ⟨z,hm,rfl⟩))
 have hdp0:zs0.length+n<=1000000000:=by have:=hok.deep;dsimp only at this;rw[<- hq]at this;simpa using this
 show Calls _ _ _ _ λe w'=>CP S (Jh ib t) n B (Ct.Bj t sd (Ct.iN t N) plc) s L e w'
 rw[<- hq]
 refine Ea (args:=[_,_]) func62 rfl ntmps62 rfl ?_
 refine sq<|rg<|sf (al h kU)<|?_
 rintro _ w ⟨b1,rfl,h⟩
 refine xe<|nx<|bk<|?_
 refine lp (α:=List ((Ct.Node×Lq)×Int)) (λρ=>(.c 0 ↑ib (.c 1 (S.v) (.c 4 ↑b1 .n)))) (λρ w=>SH B w (bl ib ([↑t.root,↑t.readOnly,↑sd,.slice ps ρ.length cq,.slice pw 0 cw]) 83::aU 177 15 (.slice ps ρ.length cq) ρ.length (ρ.flatMap eX)::bE (ρ.map Prod.fst)::bl b1 ([.int .i64 0,.int .i64 0,.int .i64 0,.int .i64 0,.nilFunc,.nilFunc,.int .i64 0,↑false,.int .u64 0,.string .empty,.int .i64 0,.int .i64 0,.int .i64 0,↑false]) 92::Gy 150 2 (.slice pw 0 cw) 0 []::S.a s::L)/\((Ct.Bj t sd (Ct.iN t N) (zs0.map Pw).reverse).head s=(Ct.Bj t sd (Ct.iN t N) (ρ.map Pw).reverse).head s)/\(∀z∈ρ,z.1.1.Fit 100000000001)/\(ρ.length+n<=1000000000)) (λρ=>ρ.length) zs0 ⟨rfl,rfl,rfl,trivial⟩ ⟨(h.fr (.c r1 (.c r1 (.c r1 (.c r0 (.c r0 (.c r0 .n))))))),rfl,hfz0,hdp0⟩ ?_
 rintro zs w ⟨h,hT,hfz,hdp⟩
 refine bk<|sq<|sq<|rg<|st (mv rfl)<|st (nc rfl rfl)<|st (fa pN rfl)<|st (ld oP rfl (h.c a0 rfl))<|st (ln oW rfl rfl)<|st (bi rfl rfl rfl)<|xe<|nx<|cF rfl<|sk<|nx<|sq<|sq<|rg<|st (mv rfl)<|st (nc rfl rfl)<|st (fa nB rfl)<|st (ld uD rfl (h.c a0 rfl))<|st (ln zY rfl rfl)<|st (bi rfl rfl rfl)<|xe<|nx<|?_
 rcases bI (((zs.length:Int):Int)==0)with hd2|hd2
 have hz0:zs=[]:=List.length_eq_zero_iff.1 (by have:=eq_of_beq hd2;omega)
 have hg3:=eq_of_beq hd2
 refine ct rfl hd2<|sq<|rg<|st (bd [.int .i64 0,↑false,.int .u64 0,.string .empty,.int .i64 0,.int .i64 0,.int .i64 0,↑false] Cy rfl (by kernel_rfl))<|cl (ca eF rfl) ((gV ({}:Ct.Result) (h.fr .n)).mono ?_)
 rintro _ w ⟨rfl,h⟩
 refine⟨_,rfl,?_⟩
 refine sf (so h rfl rfl rfl fZ (eO _) (.r (.r (.r (.r (.r (.r (.r (.r (.r (.r (.r (.r (.r (.r .d)))))))))))))) u3)<|?_
 rintro _ w h
 refine xe<|nx<|rt<|tr<|bt<|tr<|bt<|?_
 refine rr (bP results62 rfl (h.b a3) fK)<|?_
 have h:=SH.BR (it:=⟨sd,[],[]⟩) ⟨ps,cq,pw,cw,zs⟩ (by rw[hz0];rfl) (h.fr (.c r0 (.c r0 (.c r0 (.c r1 .n)))))
 have h:=kG (S:=S) (n:=n) (ρ:=Prod.fst) (M:=λz=>vV ib t z.2) (({}:Ct.Result),⟨sd,[],[]⟩) h
 exact fI (hT.trans (by rw[hz0];rfl)) (h.fr (.c r1 .n)).drop
 obtain⟨j,hj⟩:∃j,zs.length=j+1:=⟨zs.length-1,by have:=mD hd2;omega⟩
 obtain⟨⟨⟨nd,⟨pb,cb,pp,cp⟩⟩,k⟩,hz⟩:∃z,zs.getD j ((({}:Ct.Node),({}:Lq)),(0:Int))=z:=⟨_,rfl⟩
 have hfn:nd.Fit 100000000001:=hfz _ (get_mem (by omega) hz)
 have hb64:=s8 hfn
 rw[rev_last hj hz]at hT
 have hg4:=mD hd2
 refine cf rfl hd2<|sk<|nx<|sq<|rg<|st (mv rfl)<|cl (ca eF rfl) ((Vb S ib t sd zs [] j ps pw cq cw nd pb cb pp cp k s (h.fr (.c r0 (.c r0 (.c r0 (.c r2 .n))))) hj (by omega) hz hb64).mono ?_)
 rintro _ w ⟨rfl,h⟩
 refine⟨_,rfl,?_⟩
 refine st (mv rfl)<|st (xr rfl rfl)<|st (xr rfl rfl)<|st (sg rfl)<|st (sg rfl)<|xe<|nx<|sq<|sq<|rg<|st (mv rfl)<|st (nt rfl)<|xe<|nx<|?_
 rcases bI (!(!(⟨nd,k⟩:Ct.Place).out))with hd5|hd5
 have ho:(⟨nd,k⟩:Ct.Place).out=true:=by simpa using hd5
 rw[show HP zs j nd (⟨pb,cb,pp,cp⟩:Lq) k=zs from by unfold HP;rw[ho];rfl]at h
 have hd6:(!(⟨nd,k⟩:Ct.Place).out)=false:=(lC _).mp hd5
 refine ct rfl hd5<|sq<|Uc (F:=[bl ib ([↑t.root,↑t.readOnly,↑sd,.slice ps zs.length cq,.slice pw 0 cw]) 83]) [(true,[1,3,5,7,9,11,13,15,17,19,21,23,25,27]),(false,[28])] (by kernel_rfl) h (λw h=>(hC (h.at_ a0) hN)) λw h=>VP<|tk (λW H=>mv rfl)<|tk (λW H=>mv rfl)<|tk (λW H=>nc rfl rfl)<|tk (λW H=>fa nB rfl)<|tk (λW H=>ld uD rfl (H.c a0 rfl))<|tk (λW H=>mv rfl)<|tk (λW H=>nc rfl rfl)<|tk (λW H=>fa nB rfl)<|tk (λW H=>ld uD rfl (H.c a0 rfl))<|tk (λW H=>ln zY rfl rfl)<|tk (λW H=>bw rfl rfl (zW (c:=(j:Int)) (by omega) (by omega) (by omega)))<|tk (λW H=>B4 (k:=j) zY Oo rfl rfl (by have:=r9 h a1;omega))<|tk (λW H=>nc rfl rfl)<|tk (λW H=>fa nB rfl)<|Zp<|ff (so h rfl rfl rfl WD rfl (.s (.s (.s (.r .d)))) u0)<|?_
 rintro _ w h
 refine⟨trivial,?_⟩
 refine xz<|nx<|xt<|tx<|be<|nx<|?_
 have h:=SH.D7 (k:=j) (h.fr (.c r1 .n)) (by omega)
 rw[Kk hB]at h
 have h:=SH.ZL (ys:=(zs.take j).map Prod.fst) (h.fr (.c r2 .n)) ME
 have hlt:(zs.take j).length=j:=by rw[Hg];omega
 have h:SH B w (bE ((zs.take j).map Prod.fst)::aU 177 15 (.slice ps (zs.take j).length cq) (zs.take j).length ((zs.take j).flatMap eX)::bl ib ([↑t.root,↑t.readOnly,↑sd,.slice ps (zs.take j).length cq,.slice pw 0 cw]) 83::S.a s::bl b1 ([.int .i64 0,.int .i64 0,.int .i64 0,.int .i64 0,.nilFunc,.nilFunc,.int .i64 0,↑false,.int .u64 0,.string .empty,.int .i64 0,.int .i64 0,.int .i64 0,↑false]) 92::Gy 150 2 (.slice pw 0 cw) 0 []::L):=by rw[hlt];exact h
 exact⟨(zs.take j),⟨rfl,rfl,rfl,trivial⟩,⟨(h.fr (.c r2 (.c r1 (.c r0 (.c r1 (.c r1 (.c r0 .n))))))),hT.trans (qT ho rfl),λz hm=>hfz z (Br hm),by(try dsimp only);omega⟩,by rw[hlt];omega⟩
 have ho:(⟨nd,k⟩:Ct.Place).out=false:=by simpa using hd5
 have eb:SK nd k=(⟨nd,k⟩:Ct.Place).branch:=by unfold SK;rw[ho];rfl
 rw[show HP zs j nd (⟨pb,cb,pp,cp⟩:Lq) k=zs.set j ((nd,(⟨pb,cb,pp,cp⟩:Lq)),(⟨nd,k⟩:Ct.Place).idx+1)from by unfold HP;rw[ho];rfl]at h
 rw[eb]
 have hd7:(!(⟨nd,k⟩:Ct.Place).out)=true:=(Pe _).mp hd5
 refine cf rfl hd5<|sk<|nx<|sq<|rg<|st (mv rfl)<|st (mv rfl)<|cl (ci (S.sN h a3) rfl rfl) ((cK S s (⟨nd,k⟩:Ct.Place).branch (h.fr (.c r3 .n)) hs).mono ?_)
 rintro _ w ⟨q8,rfl,h⟩
 refine⟨_,rfl,?_⟩
 refine sf (al h Qm)<|?_
 rintro _ w ⟨b9,rfl,h⟩
 refine sf (so h rfl rfl rfl wI rfl (.r (.r (.r (.r (.r (.r (.r (.r (.r (.r (.r (.r (.r (.r .d)))))))))))))) u0)<|?_
 rintro _ w h
 refine xe<|nx<|sq<|sq<|rg<|st (fa nW rfl)<|st (ld jE rfl (h.c a0 rfl))<|st (bi rfl rfl rfl)<|xe<|nx<|?_
 rcases bI (((s.node (⟨nd,k⟩:Ct.Place).branch).kind:Int)==4)with hd10|hd10
 have hg11:=eq_of_beq hd10
 refine ct rfl hd10<|sq<|rg<|st (fa vS rfl)<|st (ld uK rfl (h.c a0 rfl))<|st (fa Ul rfl)<|st (ld mG rfl (h.c a0 rfl))<|st (bd [.string (s.node (⟨nd,k⟩:Ct.Place).branch).key,.int .u64 (((s.node (⟨nd,k⟩:Ct.Place).branch).value:Nat):Int)] JZ rfl (by kernel_rfl))<|cl (ca eF rfl) ((Li (⟨(s.node (⟨nd,k⟩:Ct.Place).branch).key,(s.node (⟨nd,k⟩:Ct.Place).branch).value⟩:Ct.bN) (h.fr .n)).mono ?_)
 rintro _ w ⟨rfl,h⟩
 refine⟨_,rfl,?_⟩
 refine sf (so h rfl rfl rfl fZ (eO _) (.r (.r (.r (.r (.r (.r (.r (.r (.r (.r (.r (.r (.r (.r .d)))))))))))))) u6)<|?_
 rintro _ w h
 refine xe<|nx<|rt<|tr<|bt<|tr<|bt<|?_
 refine rr (bP results62 rfl (h.b a6) fK)<|?_
 have hls:(zs.set j ((nd,(⟨pb,cb,pp,cp⟩:Lq)),(⟨nd,k⟩:Ct.Place).idx+1)).length=zs.length:=Fh ..
 have h:=SH.ZL (ys:=(zs.set j ((nd,(⟨pb,cb,pp,cp⟩:Lq)),(⟨nd,k⟩:Ct.Place).idx+1)).map Prod.fst) (h.fr (.c r5 .n)) (AW hj hz)
 rw[<- hls]at h
 have h:=SH.BR (it:=⟨sd,(⟨nd,k⟩:Ct.Place).step::((zs.take j).map Pw).reverse,[]⟩) ⟨ps,cq,pw,cw,zs.set j ((nd,(⟨pb,cb,pp,cp⟩:Lq)),(⟨nd,k⟩:Ct.Place).idx+1)⟩ (AR hj) (h.fr (.c r4 (.c r4 (.c r0 (.c r4 .n)))))
 have h:=kG (S:=S) (n:=n) (ρ:=Prod.fst) (M:=λz=>vV ib t z.2) ((Ct.Ey (⟨(s.node (⟨nd,k⟩:Ct.Place).branch).key,(s.node (⟨nd,k⟩:Ct.Place).branch).value⟩:Ct.bN)),⟨sd,(⟨nd,k⟩:Ct.Place).step::((zs.take j).map Pw).reverse,[]⟩) h
 exact fI (hT.trans (qF ho (qN (qT hd10 rfl)))) (h.fr (.c r1 (.c r1 (.c r2 .n)))).drop.drop.drop
 have hg12:=mD hd10
 refine cf rfl hd10<|sk<|nx<|sq<|rg<|st (mv rfl)<|st (mv rfl)<|st (mv rfl)<|?_
 have hls:(zs.set j ((nd,(⟨pb,cb,pp,cp⟩:Lq)),(⟨nd,k⟩:Ct.Place).idx+1)).length=zs.length:=Fh ..
 have h:=SH.ZL (ys:=(zs.set j ((nd,(⟨pb,cb,pp,cp⟩:Lq)),(⟨nd,k⟩:Ct.Place).idx+1)).map Prod.fst) (h.fr (.c r5 .n)) (AW hj hz)
 rw[<- hls]at h
 have h:=SH.BR (it:=⟨sd,(⟨nd,k⟩:Ct.Place).step::((zs.take j).map Pw).reverse,[]⟩) ⟨ps,cq,pw,cw,zs.set j ((nd,(⟨pb,cb,pp,cp⟩:Lq)),(⟨nd,k⟩:Ct.Place).idx+1)⟩ (AR hj) (h.fr (.c r4 (.c r4 (.c r0 (.c r4 .n)))))
 refine cl (ca eF rfl) ((Fy S hd ib t N n hn hrec sd ((⟨nd,k⟩:Ct.Place).step::((zs.take j).map Pw).reverse) ((⟨nd,k⟩:Ct.Place).branch) s (h.fr (.c r0 (.c r2 .n))) hs (L5 hfz hj hz hdp)).mono ?_)
 rintro _ w ⟨s13,t14,c15,hq16,rfl,h⟩
 refine⟨_,rfl,?_⟩
 refine sf (so h rfl rfl rfl fZ (eO _) (.r (.r (.r (.r (.r (.r (.r (.r (.r (.r (.r (.r (.r (.r .d)))))))))))))) u4)<|?_
 rintro _ w h
 refine xe<|nx<|rt<|bt<|tr<|bt<|?_
 refine rr (bP results62 rfl (h.b a4) fK)<|?_
 exact fI (hT.trans (qF ho (qN (qF hd10 (hq16))))) (h.fr (.c r2 (.c r2 (.c r2 .n)))).drop.drop.drop
theorem Bh(S:dN)[Gc S](hd:S.d+1<=349)(ib:Nat)(t:Ct.bC):∀(N n:Nat),n<=N->n<=8000000000000000000->Bo S ib t (N+1) n
 |0,n,hn,hb=>λit B w L s h hs hok=>by
  obtain⟨sd,plc,wt⟩:=it
  cases wt with
  |nil=>exact Fp S hd ib t 0 n hb (λj hj=>by omega) sd plc s h hs hok
  |cons p wt=>exact Fw S ib t 0 n sd plc p wt s h (by have:=hok.wait;simp only[Qb]at this;omega)
 |N+1,n,hn,hb=>λit B w L s h hs hok=>by
  obtain⟨sd,plc,wt⟩:=it
  cases wt with
  |nil=>exact Fp S hd ib t (N+1) n hb (λj hj=>Bh S hd ib t N j (by omega) (by omega)) sd plc s h hs hok
  |cons p wt=>exact Fw S ib t (N+1) n sd plc p wt s h (by have:=hok.wait;simp only[Qb]at this;omega)
theorem RO(S:dN)[Gc S](hd:S.d+1<=349)(ib:Nat)(t:Ct.bC)(N n:Nat)(hn:n<=N)(hb:n<=8000000000000000000)(plc:List Ct.Place)(wt:List Ct.bN)(s:Ct.St)(h:SH B w (vV ib t (⟨true,plc,wt⟩)::S.a s::L))(hs:Ct.Rm 60 s)(hok:Ct.tF n ⟨true,plc,wt⟩):
  Calls prog 39 #[↑ib,S.v] w λe w'=>CP S (Jh ib t) n B (Ct.iN t (N+1) ⟨true,plc,wt⟩) s L e w':=by
 obtain⟨⟨ps,cq,pw,cw,zs⟩,hq,h⟩:=SH.VU h
 dsimp only at hq
 have h:SH B w (bl ib ([↑t.root,↑t.readOnly,↑true,.slice ps zs.length cq,.slice pw wt.length cw]) 83::aU 177 15 (.slice ps zs.length cq) zs.length (zs.flatMap eX)::bE (zs.map Prod.fst)::Gy 150 2 (.slice pw wt.length cw) wt.length (wt.flatMap aR)::S.a s::L):=h
 refine Ea (args:=[_,_]) func39 rfl ntmps39 rfl ?_
 refine sq<|rg<|sf (bx h rfl rfl)<|?_
 rintro _ w ⟨b1,rfl,h⟩
 refine sf (bx h rfl rfl)<|?_
 rintro _ w ⟨b2,rfl,h⟩
 refine sf (al h kU)<|?_
 rintro _ w ⟨b3,rfl,h⟩
 refine xe<|nx<|sq<|sq<|rg<|st (ld yA rfl (h.c a2 rfl))<|st (nc rfl rfl)<|st (fa Rx rfl)<|st (ld xN rfl (h.c a3 rfl))<|xe<|nx<|cT rfl<|sq<|rg<|st (ld yA rfl (h.c a2 rfl))<|st (ld oG rfl (h.c a1 rfl))<|?_
 have h:=SH.BR (it:=⟨true,plc,wt⟩) ⟨ps,cq,pw,cw,zs⟩ hq (h.fr (.c r3 (.c r3 (.c r3 (.c r3 .n)))))
 refine cl (ca eF rfl) ((Bh S hd ib t N n hn hb ⟨true,plc,wt⟩ _ _ _ s (h.fr (.c r0 (.c r3 .n))) hs hok).mono ?_)
 rintro _ w ⟨s4,t5,c6,hq7,rfl,h⟩
 refine⟨_,rfl,?_⟩
 refine sf (so h rfl rfl rfl fZ (eO _) (.r (.r (.r (.r (.r (.r (.r (.r (.r (.r (.r (.r (.r (.r .d)))))))))))))) u2)<|?_
 rintro _ w h
 refine xe<|nx<|rt<|tr<|?_
 refine rr (bP results39 rfl (h.b a2) fK)<|?_
 exact fI (hq7) (h.fr (.c r2 (.c r2 (.c r2 .n)))).drop.drop.drop
theorem Pl(S:dN)[Gc S](hd:S.d+1<=349)(ib:Nat)(t:Ct.bC)(N m:Nat)(hn:m<=N)(hb:m<=8000000000000000000)(cb0 cb1:Nat)(plc:List Ct.Place)(x:Int)(s:Ct.St)(h:SH B w (rb cb0 ([↑ib]) 36::rb cb1 [S.v] 85::vV ib t (⟨true,plc,[]⟩)::S.a s::L))(hs:Ct.Rm 60 s)(hok:Ct.tF m ⟨true,plc,[]⟩):
  Calls prog 64 #[↑x,↑cb0,↑cb1] w λe w'=>CP S (Jh ib t) m B (Ct.qV t (N+1) ⟨true,plc,[]⟩ x) s L e w':=by
 refine Ea (args:=[_,_,_]) func64 rfl ntmps64 rfl ?_
 refine sq<|rg<|sf (al h kU)<|?_
 rintro _ w ⟨b1,rfl,h⟩
 refine xe<|nx<|sq<|rg<|st (ld yA rfl (h.B8 a1 rfl))<|st (ld oG rfl (h.B8 a2 rfl))<|st (mv rfl)<|cl (ca eF rfl) ((Fy S hd ib t (N+1) m hb (λj hj=>Bh S hd ib t N j (by omega) (by omega)) true plc x s (h.fr (.c r3 (.c r3 .n))) hs hok).mono ?_)
 rintro _ w ⟨s2,t3,c4,hq5,rfl,h⟩
 refine⟨_,rfl,?_⟩
 refine sf (so h rfl rfl rfl fZ (eO _) (.r (.r (.r (.r (.r (.r (.r (.r (.r (.r (.r (.r (.r (.r .d)))))))))))))) u2)<|?_
 rintro _ w h
 refine xe<|nx<|rt<|?_
 refine rr (bP results64 rfl (h.b a2) fK)<|?_
 exact fI (hq5) (h.fr (.c r2 (.c r2 (.c r2 .n)))).drop.drop.drop
theorem RC(S:dN)[Gc S](hd:S.d+1<=349)(ib:Nat)(t:Ct.bC)(N n:Nat)(hn:n<=N)(hb:n<=8000000000000000000)(plc:List Ct.Place)(s:Ct.St)(h:SH B w (vV ib t (⟨false,plc,[]⟩)::S.a s::L))(hs:Ct.Rm 60 s)(hok:Ct.tF n ⟨true,plc,[]⟩):
  Calls prog 39 #[↑ib,S.v] w λe w'=>CP S (Jh ib t) n B (.load t.root λx=>Ct.qV t (N+1) ⟨true,plc,[]⟩ x) s L e w':=by
 obtain⟨⟨ps,cq,pw,cw,zs⟩,hq,h⟩:=SH.VU h
 dsimp only at hq
 have h:SH B w (bl ib ([↑t.root,↑t.readOnly,↑false,.slice ps zs.length cq,.slice pw 0 cw]) 83::aU 177 15 (.slice ps zs.length cq) zs.length (zs.flatMap eX)::bE (zs.map Prod.fst)::Gy 150 2 (.slice pw 0 cw) 0 []::S.a s::L):=h
 refine Ea (args:=[_,_]) func39 rfl ntmps39 rfl ?_
 refine sq<|rg<|sf (bx h rfl rfl)<|?_
 rintro _ w ⟨b1,rfl,h⟩
 refine sf (bx h rfl rfl)<|?_
 rintro _ w ⟨b2,rfl,h⟩
 refine sf (al h kU)<|?_
 rintro _ w ⟨b3,rfl,h⟩
 refine xe<|nx<|sq<|sq<|rg<|st (ld yA rfl (h.c a2 rfl))<|st (nc rfl rfl)<|st (fa Rx rfl)<|st (ld xN rfl (h.c a3 rfl))<|xe<|nx<|cF rfl<|sk<|nx<|sq<|rg<|st (ld yA rfl (h.c a2 rfl))<|st (nc rfl rfl)<|st (fa Rx rfl)<|sf (so h rfl rfl rfl AU rfl (.s (.s (.r .d))) u3)<|?_
 rintro _ w h
 refine xe<|nx<|sq<|?_
 have h:=SH.kX (h.fr (.c r2 .n))
 have h:=SH.kX (h.fr (.c r2 .n))
 refine rg<|st (ld yA rfl (h.B8 a1 rfl))<|st (nc rfl rfl)<|st (fa Hm rfl)<|st (fa BW rfl)<|st (ld qK rfl (h.c a3 rfl))<|st (mf rfl rfl)<|cl (ca eF rfl) ((jH t.root (.fn 64 [] [↑b1,↑b2]) (h.fr .n)).mono ?_)
 rintro _ w ⟨rfl,h⟩
 refine⟨_,rfl,?_⟩
 refine sf (so h rfl rfl rfl fZ (eO _) (.r (.r (.r (.r (.r (.r (.r (.r (.r (.r (.r (.r (.r (.r .d)))))))))))))) u2)<|?_
 rintro _ w h
 refine xe<|nx<|rt<|?_
 refine rr (bP results39 rfl (h.b a2) fK)<|?_
 have h:=SH.BR (it:=⟨true,plc,[]⟩) ⟨ps,cq,pw,cw,zs⟩ hq (h.fr (.c r3 (.c r3 (.c r3 (.c r3 .n)))))
 have h:=h.fr (.c r2 (.c r1 (.c r0 .n)))
 have h:=Nt (S:=S) (F:=Jh ib t) (n:=n) (args:=dQ) (k:=λx=>Ct.qV t (N+1) ⟨true,plc,[]⟩ x) (v:=(.fn 64 [] [↑b1,↑b2])) [rb b1 ([↑ib]) 36,rb b2 [S.v] 85,vV ib t (⟨true,plc,[]⟩)] h λm' hm' B' w' L' s' x' h' hs'=>pR eF (Pl S hd ib t N m' (by omega) (by omega) b1 b2 plc x' s' h' (hs'.less (by decide)) (hok.less (Nat.le_of_lt hm')))
 have h:=kL (a:=t.root) h
 exact fI (rfl) (h.fr (.c r1 .n)).drop
theorem GA(S:dN)[Gc S](hd:S.d+1<=349)(ib:Nat)(t:Ct.bC)(N n:Nat)(hn:n<=N)(hb:n<=8000000000000000000)(it:Ct.jG)(s:Ct.St)(h:SH B w (vV ib t it::S.a s::L))(hs:Ct.Rm 60 s)(hok:Ct.oB n it):
  Calls prog 39 #[↑ib,S.v] w λe w'=>CP S (Jh ib t) n B (bif it.started then Ct.iN t (N+1) it else .load t.root λr=>Ct.qV t (N+1) ⟨true,it.stack,it.wait⟩ r) s L e w':=by
 obtain⟨sd,plc,wt⟩:=it
 cases sd with
 |true=>exact RO S hd ib t N n hn hb plc wt s h hs hok.ok
 |false=>
  obtain rfl:wt=[]:=hok.new rfl
  exact RC S hd ib t N n hn hb plc s h hs ⟨hok.ok.fit,hok.ok.deep,hok.ok.wait⟩
theorem Uq(S:dN)[Gc S](hd:S.d+1<=349)(ib:Nat)(t:Ct.bC)(N m:Nat)(hn:m<=N)(hb:m<=8000000000000000000)(cb0 cb1:Nat)(it:Ct.jG)(s:Ct.St)(h:SH B w (rb cb0 ([↑ib]) 36::rb cb1 [S.v] 85::vV ib t it::S.a s::L))(hs:Ct.Rm 60 s)(hok:Ct.oB m it):
  Calls prog 38 #[↑cb0,↑cb1] w λe w'=>CP S (Jh ib t) m B (bif it.started then Ct.iN t (N+1) it else .load t.root λr=>Ct.qV t (N+1) ⟨true,it.stack,it.wait⟩ r) s L e w':=by
 refine Ea (args:=[_,_]) func38 rfl ntmps38 rfl ?_
 refine sq<|rg<|sf (al h kU)<|?_
 rintro _ w ⟨b1,rfl,h⟩
 refine xe<|nx<|sq<|rg<|st (ld yA rfl (h.B8 a1 rfl))<|st (ld oG rfl (h.B8 a2 rfl))<|cl (ca eF rfl) ((GA S hd ib t N m hn hb it s (h.fr (.c r3 (.c r3 .n))) hs hok).mono ?_)
 rintro _ w ⟨s2,t3,c4,hq5,rfl,h⟩
 refine⟨_,rfl,?_⟩
 refine sf (so h rfl rfl rfl fZ (eO _) (.r (.r (.r (.r (.r (.r (.r (.r (.r (.r (.r (.r (.r (.r .d)))))))))))))) u2)<|?_
 rintro _ w h
 refine xe<|nx<|rt<|?_
 refine rr (bP results38 rfl (h.b a2) fK)<|?_
 exact fI (hq5) (h.fr (.c r2 (.c r2 (.c r2 .n)))).drop.drop.drop
theorem Vh(S:dN)(ib:Nat)(t:Ct.bC)(m:Nat)(it:Ct.jG)(s:Ct.St)(h:SH B w (vV ib t it::S.a s::L)):
  Calls prog 36 #[] w λe w'=>CP S (Jh ib t) m B (.ret ({err:=7},it)) s L e w':=by
 refine Ea (args:=[]) func36 rfl ntmps36 rfl ?_
 refine sq<|rg<|sf (al h kU)<|?_
 rintro _ w ⟨b1,rfl,h⟩
 refine xe<|nx<|sq<|rg<|st (bd [.int .i64 7,↑false,.int .u64 0,.string .empty,.int .i64 0,.int .i64 0,.int .i64 0,↑false] Cy rfl (by kernel_rfl))<|cl (ca eF rfl) ((gV ({err:=7}:Ct.Result) (h.fr .n)).mono ?_)
 rintro _ w ⟨rfl,h⟩
 refine⟨_,rfl,?_⟩
 refine sf (so h rfl rfl rfl fZ (eO _) (.r (.r (.r (.r (.r (.r (.r (.r (.r (.r (.r (.r (.r (.r .d)))))))))))))) u0)<|?_
 rintro _ w h
 refine xe<|nx<|rt<|?_
 refine rr (bP results36 rfl (h.b a0) fK)<|?_
 have h:=kG (S:=S) (n:=m) (ρ:=Prod.fst) (M:=λz=>vV ib t z.2) (({err:=7}:Ct.Result),it) (h.fr (.c r1 .n))
 exact fI (rfl) (h.fr (.c r1 .n)).drop
theorem IK(S:dN)[Gc S](hd:S.d+1<=349)(ib:Nat)(t:Ct.bC)(N n:Nat)(hn:n<=N)(hb:n<=8000000000000000000)(sd:Bool)(plc:List Ct.Place)(wt:List Ct.bN)(s:Ct.St)(h:SH B w (vV ib t (⟨sd,plc,wt⟩)::S.a s::L))(hs:Ct.Rm 60 s)(hok:Ct.oB n ⟨sd,plc,wt⟩)(hro:t.readOnly=true):
  Calls prog 10 #[↑ib,S.v] w λe w'=>∃tb s' u,(Ct.xW t (N+1) ⟨sd,plc,wt⟩).head s=(s',u)/\e=.returned (.pointer (some ⟨tb,0,none⟩))/\SH B w' (eQ S (Jh ib t) n tb u 0::S.a s'::L):=by
 obtain⟨⟨ps,cq,pw,cw,zs⟩,hq,h⟩:=SH.VU h
 dsimp only at hq
 have h:SH B w (bl ib ([↑t.root,↑t.readOnly,↑sd,.slice ps zs.length cq,.slice pw wt.length cw]) 83::aU 177 15 (.slice ps zs.length cq) zs.length (zs.flatMap eX)::bE (zs.map Prod.fst)::Gy 150 2 (.slice pw wt.length cw) wt.length (wt.flatMap aR)::S.a s::L):=h
 refine Ea (args:=[_,_]) func10 rfl ntmps10 rfl ?_
 refine sq<|rg<|sf (bx h rfl rfl)<|?_
 rintro _ w ⟨b1,rfl,h⟩
 refine sf (bx h rfl rfl)<|?_
 rintro _ w ⟨b2,rfl,h⟩
 refine st (sg rfl)<|xe<|nx<|sq<|sq<|rg<|st (ld yA rfl (h.c a1 rfl))<|st (nc rfl rfl)<|st (fa Hm rfl)<|st (fa tS rfl)<|st (ld xN rfl (h.c a2 rfl))<|st (nt rfl)<|xe<|nx<|cf rfl (sZ hro)<|sk<|nx<|sq<|?_
 have h:=SH.kX (h.fr (.c r1 .n))
 have h:=SH.kX (h.fr (.c r1 .n))
 refine rg<|st (ld oG rfl (h.B8 a0 rfl))<|st (mf rfl rfl)<|?_
 have h:=SH.BR (it:=⟨sd,plc,wt⟩) ⟨ps,cq,pw,cw,zs⟩ hq (h.fr (.c r2 (.c r2 (.c r2 (.c r2 .n)))))
 have h:=h.fr (.c r2 (.c r1 (.c r0 .n)))
 have h:=YZ (S:=S) (F:=Jh ib t) (n:=n) (j:=60) (args:=qI) (k:=λ_:Unit=>bif sd then Ct.iN t (N+1) ⟨sd,plc,wt⟩else .load t.root λr=>Ct.qV t (N+1) ⟨true,plc,wt⟩ r) (v:=(.fn 38 [] [↑b1,↑b2])) [rb b1 ([↑ib]) 36,rb b2 [S.v] 85,vV ib t (⟨sd,plc,wt⟩)] h λB' w' L' s' x' h' hs'=>pR eF (Uq S hd ib t N n hn hb b1 b2 ⟨sd,plc,wt⟩ s' h' hs' hok)
 refine cl (ca eF rfl) ((Km S (Jh ib t) n (.fn 38 [] [↑b1,↑b2]) (λ_:Unit=>bif sd then Ct.iN t (N+1) ⟨sd,plc,wt⟩else .load t.root λr=>Ct.qV t (N+1) ⟨true,plc,wt⟩ r) s (h.fr (.c r0 (.c r0 .n))) hs).mono ?_)
 rintro _ w ⟨tb3,s4,uz5,hq6,rfl,h⟩
 refine⟨_,rfl,?_⟩
 refine st (sg rfl)<|xe<|nx<|rt<|?_
 refine rr (jP results10 rfl)<|⟨tb3,s4,uz5,by unfold Ct.xW;rw[hro];exact hq6,rfl,h⟩
theorem Yd(S:dN)[Gc S](hd:S.d+1<=349)(ib:Nat)(t:Ct.bC)(N n:Nat)(hn:n<=N)(hb:n<=8000000000000000000)(sd:Bool)(plc:List Ct.Place)(wt:List Ct.bN)(s:Ct.St)(h:SH B w (vV ib t (⟨sd,plc,wt⟩)::S.a s::L))(hs:Ct.Rm 60 s)(hok:Ct.oB n ⟨sd,plc,wt⟩)(hro:t.readOnly=false):
  Calls prog 10 #[↑ib,S.v] w λe w'=>∃tb s' u,(Ct.xW t (N+1) ⟨sd,plc,wt⟩).head s=(s',u)/\e=.returned (.pointer (some ⟨tb,0,none⟩))/\SH B w' (eQ S (Jh ib t) n tb u 0::S.a s'::L):=by
 obtain⟨⟨ps,cq,pw,cw,zs⟩,hq,h⟩:=SH.VU h
 dsimp only at hq
 have h:SH B w (bl ib ([↑t.root,↑t.readOnly,↑sd,.slice ps zs.length cq,.slice pw wt.length cw]) 83::aU 177 15 (.slice ps zs.length cq) zs.length (zs.flatMap eX)::bE (zs.map Prod.fst)::Gy 150 2 (.slice pw wt.length cw) wt.length (wt.flatMap aR)::S.a s::L):=h
 refine Ea (args:=[_,_]) func10 rfl ntmps10 rfl ?_
 refine sq<|rg<|sf (bx h rfl rfl)<|?_
 rintro _ w ⟨b1,rfl,h⟩
 refine sf (bx h rfl rfl)<|?_
 rintro _ w ⟨b2,rfl,h⟩
 refine st (sg rfl)<|xe<|nx<|sq<|sq<|rg<|st (ld yA rfl (h.c a1 rfl))<|st (nc rfl rfl)<|st (fa Hm rfl)<|st (fa tS rfl)<|st (ld xN rfl (h.c a2 rfl))<|st (nt rfl)<|xe<|nx<|ct rfl (tJ hro)<|sq<|rg<|st (ld oG rfl (h.c a0 rfl))<|?_
 have h:=SH.BR (it:=⟨sd,plc,wt⟩) ⟨ps,cq,pw,cw,zs⟩ hq (h.fr (.c r2 (.c r2 (.c r2 (.c r2 .n)))))
 have h:=h.fr (.c r0 .n)
 have h:=YZ (S:=S) (F:=Jh ib t) (n:=n) (j:=60) (args:=qI) (k:=λ_:Unit=>(.ret ({err:=7},⟨sd,plc,wt⟩):Ct.I (Ct.Result×Ct.jG))) (v:=(.fn 36 [] [])) [vV ib t (⟨sd,plc,wt⟩)] h λB' w' L' s' x' h' hs'=>pR eF (Vh S ib t n ⟨sd,plc,wt⟩ s' h')
 refine cl (ca eF rfl) ((Km S (Jh ib t) n (.fn 36 [] []) (λ_:Unit=>(.ret ({err:=7},⟨sd,plc,wt⟩):Ct.I (Ct.Result×Ct.jG))) s (h.fr (.c r0 (.c r2 .n))) hs).mono ?_)
 rintro _ w ⟨tb3,s4,uz5,hq6,rfl,h⟩
 refine⟨_,rfl,?_⟩
 refine st (sg rfl)<|xe<|nx<|rt<|tr<|?_
 refine rr (jP results10 rfl)<|⟨tb3,s4,uz5,by unfold Ct.xW;rw[hro];exact hq6,rfl,(h.fr (.c r2 (.c r2 .n))).drop.drop⟩
theorem JG(S:dN)[Gc S](hd:S.d+1<=349)(ib:Nat)(t:Ct.bC)(N n:Nat)(hn:n<=N)(hb:n<=8000000000000000000)(it:Ct.jG)(s:Ct.St)(h:SH B w (vV ib t it::S.a s::L))(hs:Ct.Rm 60 s)(hok:Ct.oB n it):
  Calls prog 10 #[↑ib,S.v] w λe w'=>∃tb s' u,(Ct.xW t (N+1) it).head s=(s',u)/\e=.returned (.pointer (some ⟨tb,0,none⟩))/\SH B w' (eQ S (Jh ib t) n tb u 0::S.a s'::L):=by
 obtain⟨sd,plc,wt⟩:=it
 cases hro:t.readOnly with
 |true=>exact IK S hd ib t N n hn hb sd plc wt s h hs hok hro
 |false=>exact Yd S hd ib t N n hn hb sd plc wt s h hs hok hro
theorem z5(h:SH B w L):SH B w (bE []::L):=h.new (Kp.refl _ _) (O:=λ_=>False) (R:=λ_=>False) ⟨λ_ h=>h,(λz hz=>by cases hz),λ_ h=>h.elim⟩ (λ_ h=>h.elim) (λ_ h=>h.elim)
theorem MC(t:Ct.bC)(h:SH B w (L)):
  Calls prog 9 #[.agg [↑t.root,↑t.readOnly].toArray] w λe w'=>∃ib,e=.returned (.pointer (some ⟨ib,0,none⟩))/\SH B w' (vV ib t {}::L):=by
 refine Ea (args:=[_]) func9 rfl ntmps9 rfl ?_
 refine sq<|rg<|sf (bx h rfl rfl)<|?_
 rintro _ w ⟨b1,rfl,h⟩
 refine st (sg rfl)<|xe<|nx<|sq<|rg<|st (gJ rfl (dK (h.b a0)) sM)<|st (bd [↑t.root,↑t.readOnly,↑false,.slice none 0 0,.slice none 0 0] f9 rfl (by kernel_rfl))<|sf (bx h rfl rfl)<|?_
 rintro _ w ⟨b2,rfl,h⟩
 refine st (sg rfl)<|xe<|nx<|rt<|?_
 refine rr (jP results9 rfl)<|?_
 have h:=SH.D9 (SH.nil 150 2 (z5 (SH.nil 177 15 h)))
 exact⟨b2,rfl,SH.BR (it:={}) ⟨none,0,none,0,[]⟩ rfl ((h.fr (.c r4 .n)).drop.fr (.c r3 (.c r2 (.c r1 (.c r0 .n)))))⟩
end Go.Q9
end
