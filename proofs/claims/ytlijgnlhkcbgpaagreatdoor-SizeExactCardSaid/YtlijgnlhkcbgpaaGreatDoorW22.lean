/- Parts of a proof: Wk. -/
import Derived.Test.YtlijgnlhkcbgpaaGreatDoorW21
set_option linter.unusedVariables false
set_option linter.unusedSimpArgs false
set_option maxRecDepth 100000
set_option maxHeartbeats 4000000
section
namespace Go.Q9
open Go.Proofs.Tryz
open Go.RowKit Go.E
open Go.Ct (qN qA qC qG qT qF)
attribute [local irreducible] gB wpS
def gI(z:(Ct.Node×Lq)×Int):List Value:=aL z.1.1 z.1.2++[.int .i64 z.2]
theorem iS(z:(Ct.Node×Lq)×Int):(gI z).length=15:=rfl
def HZ(z:(Ct.Node×Lq)×Int):Ct.Place:=⟨z.1.1,z.2⟩
structure Iq where
 ps:Option Addr
 cs:Nat
 pw:Option Addr
 cw:Nat
 zs:List ((Ct.Node×Lq)×Int)
def itL(ib:Nat)(t:Ct.bC)(it:Ct.hB)(q:Iq):List As:=
 [bl ib [↑t.root,↑t.readOnly,↑it.started,.slice q.ps q.zs.length q.cs,.slice q.pw it.wait.length q.cw] 72,aU 199 15 (.slice q.ps q.zs.length q.cs) q.zs.length (q.zs.flatMap gI),bE (q.zs.map Prod.fst),
  Vh 146 2 (.slice q.pw it.wait.length q.cw) it.wait.length (it.wait.flatMap aR)]
def Di(ib:Nat)(t:Ct.bC)(it:Ct.hB):As:=ex λq:Iq=>se (pu ((q.zs.map HZ).reverse=it.stack)::itL ib t it q)
variable{B w:World}{L:List As}
theorem SH.ito{ib:Nat}{t:Ct.bC}{it:Ct.hB}(h:SH B w (Di ib t it::L)):∃q:Iq,(q.zs.map HZ).reverse=it.stack/\SH B w (itL ib t it q++L):=by
 obtain⟨q,h⟩:=SH.ex (f:=λq:Iq=>Go.E.se (Go.E.pu ((q.zs.map HZ).reverse=it.stack)::itL ib t it q)) h
 exact⟨q,(SH.se h).pu⟩
theorem SH.d6{ib:Nat}{t:Ct.bC}{it:Ct.hB}(q:Iq)(hq:(q.zs.map HZ).reverse=it.stack)(h:SH B w (itL ib t it q++L)):SH B w (Di ib t it::L):=
 SH.dU (f:=λq:Iq=>Go.E.se (Go.E.pu ((q.zs.map HZ).reverse=it.stack)::itL ib t it q)) q (SH.is (l:=_::_) (SH.ip hq h))
abbrev AT(ib:Nat)(t:Ct.bC):Ct.Result×Ct.hB->Cc->As:=Ak Prod.fst λz=>Di ib t z.2
theorem aA3(l:List ((Ct.Node×Lq)×Int)):∀(i:Nat) (v:Int),i<l.length->(l.flatMap gI).set (i*15+14) (.int .i64 v)=(l.set i ((l.getD i ((({}:Ct.Node),({}:Lq)),(0:Int))).1,v)).flatMap gI:=by
 induction l with
 |nil=>intro i v h;simp at h
 |cons q l ih=>
  intro i v h
  cases i with
  |zero=>rfl
  |succ i=>
   have h2:=ih i v (by simpa using h)
   rw[show (i+1)*15+14=(i*15+14)+15 by omega]
   show (gI q++l.flatMap gI).set _ _=gI q++((l.set i ((l.getD i ((({}:Ct.Node),({}:Lq)),(0:Int))).1,v)).flatMap gI)
   rw[<- h2];rfl
theorem aBy{α:Type}(l:List α)(x:α):l.length+1=(l++[x]).length:=by simp
theorem ZG{α:Type}{l:List α}{i:Nat}{x d:α}(h:i<l.length):(l.set i x).getD i d=x:=by
 rw[eX,List.getElem?_set_self h];rfl
theorem get_mem{α:Type}{l:List α}{i:Nat}{x d:α}(h:i<l.length)(e:l.getD i d=x):x∈l:=by
 rw[<- e,eX,fM h];exact qR h
theorem Y6(S:dN)[Um S](ib:Nat)(t:Ct.bC)(sd:Bool)(zs:List ((Ct.Node×Lq)×Int))(wt:List Ct.bN)(j:Nat)(ps pw:Option Addr)(cq cw:Nat)(n:Ct.Node)(pb:Option Addr)(cb:Nat)(pp:Option Addr)(cp:Nat)(k:Int)(s:Ct.St)(h:SH B w (bl ib ([↑t.root,↑t.readOnly,↑sd,.slice ps zs.length cq,.slice pw wt.length cw]) 72::aU 199 15 (.slice ps zs.length cq) zs.length (zs.flatMap gI)::bE (zs.map Prod.fst)::S.a s::L))(hj:zs.length=j+1)(hjm:j<=1000000000)(hz:zs.getD j ((({}:Ct.Node),({}:Lq)),(0:Int))=((n,(⟨pb,cb,pp,cp⟩:Lq)),k))(hb64:n.aD<18446744073709551616)(h1:(decide ((⟨n,k⟩:Ct.Place).idx<0))=true):
  Calls prog 99 #[↑ib] w λe w'=>e=.returned (.tuple #[.int .i64 0,↑false])/\SH B w' (bl ib ([↑t.root,↑t.readOnly,↑sd,.slice ps zs.length cq,.slice pw wt.length cw]) 72::aU 199 15 (.slice ps zs.length cq) zs.length (zs.flatMap gI)::bE (zs.map Prod.fst)::S.a s::L):=by
 refine Ea (args:=[_]) func99 rfl ntmps99 rfl ?_
 refine sq<|rg<|st (sg rfl)<|st (sg rfl)<|xe<|nx<|sq<|?_
 obtain⟨b1,rfl⟩:=h.fp a1 (by omega)
 refine dZ [1,3,5,7,9,11,13,15,17,19,21,22] (by kernel_rfl) h (.c r0 .n) λw h=>tk (λW H=>mv rfl)<|tk (λW H=>nc rfl rfl)<|tk (λW H=>fa pK rfl)<|tk (λW H=>ld Ac rfl (H.c a0 rfl))<|tk (λW H=>mv rfl)<|tk (λW H=>nc rfl rfl)<|tk (λW H=>fa pK rfl)<|tk (λW H=>ld Ac rfl (H.c a0 rfl))<|tk (λW H=>ln Gc rfl rfl)<|tk (λW H=>bw rfl rfl (zW (c:=(j:Int)) (by omega) (by omega) (by omega)))<|tk (λW H=>ix (j:=j) Gc JJ rfl rfl (by omega))<|ef (sg rfl) (h.hs (.c r0 .n))<|xz<|nx<|sq<|dZ [1,3,5,7,9,11,13,15,17,18,20] (by kernel_rfl) h (.c r1 .n) λw h=>tk (λW H=>mv rfl)<|tk (λW H=>nc rfl rfl)<|tk (λW H=>fa qD rfl)<|tk (λW H=>fa kU rfl)<|tk (λW H=>ld Qf rfl ((H.ro a0).x iS (by decide) (by first|omega|(simp;omega)) ((({}:Ct.Node),({}:Lq)),(0:Int)) 3 (.int .u64 (n.aD:Int)) (by rw[hz];rfl)))<|tk (λW H=>mv rfl)<|tk (λW H=>nc rfl rfl)<|tk (λW H=>fa Oq rfl)<|tk (λW H=>ld jE rfl ((H.ro a0).x iS (by decide) (by first|omega|(simp;omega)) ((({}:Ct.Node),({}:Lq)),(0:Int)) 14 (.int .i64 k) (by rw[hz];rfl)))<|cs (ca eF rfl) ((tE n.aD k _ hb64).mono ?_)
 rintro _ _ ⟨rfl,rfl⟩
 refine⟨_,rfl,h.hs (.c r1 .n),?_⟩
 refine ef (sg rfl) (h.hs (.c r1 .n))<|xz<|nx<|sq<|rg<|st (mv rfl)<|st (nc rfl rfl)<|st (fa qD rfl)<|st (fa kU rfl)<|st (ld Qf rfl ((h.ro a1).x iS (by decide) (by first|omega|(simp;omega)) ((({}:Ct.Node),({}:Lq)),(0:Int)) 3 (.int .u64 (n.aD:Int)) (by rw[hz];rfl)))<|st (mv rfl)<|cl (ca eF rfl) ((SK n.aD ((Bm.aO n.aD k:Nat):Int) _ (V6 S h a3) hb64).mono ?_)
 rintro _ _ ⟨rfl,rfl⟩
 refine⟨_,rfl,?_⟩
 refine st (sg rfl)<|xe<|nx<|sq<|sq<|rg<|st (mv rfl)<|st (bi rfl rfl rfl)<|st (mv rfl)<|gF rfl rfl h1<|gF rfl rfl h1<|gF rfl rfl h1<|gF rfl rfl h1<|gF rfl rfl h1<|gF rfl rfl h1<|gF rfl rfl h1<|gF rfl rfl h1<|st (pT rfl h1 rfl)<|xe<|nx<|cT rfl<|sq<|rg<|st (sg rfl)<|st (sg rfl)<|xe<|nx<|rt<|tr<|?_
 refine rr (gE results99 rfl rfl)<|⟨rfl,h⟩
theorem Y2(S:dN)[Um S](ib:Nat)(t:Ct.bC)(sd:Bool)(zs:List ((Ct.Node×Lq)×Int))(wt:List Ct.bN)(j:Nat)(ps pw:Option Addr)(cq cw:Nat)(n:Ct.Node)(pb:Option Addr)(cb:Nat)(pp:Option Addr)(cp:Nat)(k:Int)(s:Ct.St)(h:SH B w (bl ib ([↑t.root,↑t.readOnly,↑sd,.slice ps zs.length cq,.slice pw wt.length cw]) 72::aU 199 15 (.slice ps zs.length cq) zs.length (zs.flatMap gI)::bE (zs.map Prod.fst)::S.a s::L))(hj:zs.length=j+1)(hjm:j<=1000000000)(hz:zs.getD j ((({}:Ct.Node),({}:Lq)),(0:Int))=((n,(⟨pb,cb,pp,cp⟩:Lq)),k))(hb64:n.aD<18446744073709551616)(h1:(decide ((⟨n,k⟩:Ct.Place).idx<0))=false)(h2:(decide ((n.aA.length:Int)<=(((⟨n,k⟩:Ct.Place).pos:Nat):Int)))=true):
  Calls prog 99 #[↑ib] w λe w'=>e=.returned (.tuple #[.int .i64 0,↑false])/\SH B w' (bl ib ([↑t.root,↑t.readOnly,↑sd,.slice ps zs.length cq,.slice pw wt.length cw]) 72::aU 199 15 (.slice ps zs.length cq) zs.length (zs.flatMap gI)::bE (zs.map Prod.fst)::S.a s::L):=by
 refine Ea (args:=[_]) func99 rfl ntmps99 rfl ?_
 refine sq<|rg<|st (sg rfl)<|st (sg rfl)<|xe<|nx<|sq<|?_
 obtain⟨b1,rfl⟩:=h.fp a1 (by omega)
 refine dZ [1,3,5,7,9,11,13,15,17,19,21,22] (by kernel_rfl) h (.c r0 .n) λw h=>tk (λW H=>mv rfl)<|tk (λW H=>nc rfl rfl)<|tk (λW H=>fa pK rfl)<|tk (λW H=>ld Ac rfl (H.c a0 rfl))<|tk (λW H=>mv rfl)<|tk (λW H=>nc rfl rfl)<|tk (λW H=>fa pK rfl)<|tk (λW H=>ld Ac rfl (H.c a0 rfl))<|tk (λW H=>ln Gc rfl rfl)<|tk (λW H=>bw rfl rfl (zW (c:=(j:Int)) (by omega) (by omega) (by omega)))<|tk (λW H=>ix (j:=j) Gc JJ rfl rfl (by omega))<|ef (sg rfl) (h.hs (.c r0 .n))<|xz<|nx<|sq<|dZ [1,3,5,7,9,11,13,15,17,18,20] (by kernel_rfl) h (.c r1 .n) λw h=>tk (λW H=>mv rfl)<|tk (λW H=>nc rfl rfl)<|tk (λW H=>fa qD rfl)<|tk (λW H=>fa kU rfl)<|tk (λW H=>ld Qf rfl ((H.ro a0).x iS (by decide) (by first|omega|(simp;omega)) ((({}:Ct.Node),({}:Lq)),(0:Int)) 3 (.int .u64 (n.aD:Int)) (by rw[hz];rfl)))<|tk (λW H=>mv rfl)<|tk (λW H=>nc rfl rfl)<|tk (λW H=>fa Oq rfl)<|tk (λW H=>ld jE rfl ((H.ro a0).x iS (by decide) (by first|omega|(simp;omega)) ((({}:Ct.Node),({}:Lq)),(0:Int)) 14 (.int .i64 k) (by rw[hz];rfl)))<|cs (ca eF rfl) ((tE n.aD k _ hb64).mono ?_)
 rintro _ _ ⟨rfl,rfl⟩
 refine⟨_,rfl,h.hs (.c r1 .n),?_⟩
 refine ef (sg rfl) (h.hs (.c r1 .n))<|xz<|nx<|sq<|rg<|st (mv rfl)<|st (nc rfl rfl)<|st (fa qD rfl)<|st (fa kU rfl)<|st (ld Qf rfl ((h.ro a1).x iS (by decide) (by first|omega|(simp;omega)) ((({}:Ct.Node),({}:Lq)),(0:Int)) 3 (.int .u64 (n.aD:Int)) (by rw[hz];rfl)))<|st (mv rfl)<|cl (ca eF rfl) ((SK n.aD ((Bm.aO n.aD k:Nat):Int) _ (V6 S h a3) hb64).mono ?_)
 rintro _ _ ⟨rfl,rfl⟩
 refine⟨_,rfl,?_⟩
 refine st (sg rfl)<|xe<|nx<|sq<|sq<|rg<|st (mv rfl)<|st (bi rfl rfl rfl)<|st (mv rfl)<|gT rfl rfl h1<|st (mv rfl)<|gT rfl rfl h1<|st (mv rfl)<|gT rfl rfl h1<|st (nc rfl rfl)<|gT rfl rfl h1<|st (fa qD rfl)<|gT rfl rfl h1<|st (fa kF rfl)<|gT rfl rfl h1<|st (ld Jq rfl ((h.ro a1).x iS (by decide) (by first|omega|(simp;omega)) ((({}:Ct.Node),({}:Lq)),(0:Int)) 4 (.slice pb n.aA.length cb) (by rw[hz];rfl)))<|gT rfl rfl h1<|st (ln vC rfl rfl)<|gT rfl rfl h1<|st (bi rfl rfl rfl)<|st (pF rfl h1 rfl)<|xe<|nx<|ct rfl h2<|sq<|rg<|st (sg rfl)<|st (sg rfl)<|xe<|nx<|rt<|tr<|?_
 refine rr (gE results99 rfl rfl)<|⟨rfl,h⟩
theorem aB4(S:dN)[Um S](ib:Nat)(t:Ct.bC)(sd:Bool)(zs:List ((Ct.Node×Lq)×Int))(wt:List Ct.bN)(j:Nat)(ps pw:Option Addr)(cq cw:Nat)(n:Ct.Node)(pb:Option Addr)(cb:Nat)(pp:Option Addr)(cp:Nat)(k:Int)(s:Ct.St)(h:SH B w (bl ib ([↑t.root,↑t.readOnly,↑sd,.slice ps zs.length cq,.slice pw wt.length cw]) 72::aU 199 15 (.slice ps zs.length cq) zs.length (zs.flatMap gI)::bE (zs.map Prod.fst)::S.a s::L))(hj:zs.length=j+1)(hjm:j<=1000000000)(hz:zs.getD j ((({}:Ct.Node),({}:Lq)),(0:Int))=((n,(⟨pb,cb,pp,cp⟩:Lq)),k))(hb64:n.aD<18446744073709551616)(h1:(decide ((⟨n,k⟩:Ct.Place).idx<0))=false)(h2:(decide ((n.aA.length:Int)<=(((⟨n,k⟩:Ct.Place).pos:Nat):Int)))=false)(h3:(⟨n,k⟩:Ct.Place).idx<=64):
  Calls prog 99 #[↑ib] w λe w'=>e=.returned (.tuple #[.int .i64 (⟨n,k⟩:Ct.Place).branch,↑true])/\SH B w' (bl ib ([↑t.root,↑t.readOnly,↑sd,.slice ps zs.length cq,.slice pw wt.length cw]) 72::aU 199 15 (.slice ps zs.length cq) zs.length ((zs.set j ((n,(⟨pb,cb,pp,cp⟩:Lq)),(⟨n,k⟩:Ct.Place).idx+1)).flatMap gI)::bE (zs.map Prod.fst)::S.a s::L):=by
 refine Ea (args:=[_]) func99 rfl ntmps99 rfl ?_
 refine sq<|rg<|st (sg rfl)<|st (sg rfl)<|xe<|nx<|sq<|?_
 obtain⟨b1,rfl⟩:=h.fp a1 (by omega)
 refine dZ [1,3,5,7,9,11,13,15,17,19,21,22] (by kernel_rfl) h (.c r0 .n) λw h=>tk (λW H=>mv rfl)<|tk (λW H=>nc rfl rfl)<|tk (λW H=>fa pK rfl)<|tk (λW H=>ld Ac rfl (H.c a0 rfl))<|tk (λW H=>mv rfl)<|tk (λW H=>nc rfl rfl)<|tk (λW H=>fa pK rfl)<|tk (λW H=>ld Ac rfl (H.c a0 rfl))<|tk (λW H=>ln Gc rfl rfl)<|tk (λW H=>bw rfl rfl (zW (c:=(j:Int)) (by omega) (by omega) (by omega)))<|tk (λW H=>ix (j:=j) Gc JJ rfl rfl (by omega))<|ef (sg rfl) (h.hs (.c r0 .n))<|xz<|nx<|sq<|dZ [1,3,5,7,9,11,13,15,17,18,20] (by kernel_rfl) h (.c r1 .n) λw h=>tk (λW H=>mv rfl)<|tk (λW H=>nc rfl rfl)<|tk (λW H=>fa qD rfl)<|tk (λW H=>fa kU rfl)<|tk (λW H=>ld Qf rfl ((H.ro a0).x iS (by decide) (by first|omega|(simp;omega)) ((({}:Ct.Node),({}:Lq)),(0:Int)) 3 (.int .u64 (n.aD:Int)) (by rw[hz];rfl)))<|tk (λW H=>mv rfl)<|tk (λW H=>nc rfl rfl)<|tk (λW H=>fa Oq rfl)<|tk (λW H=>ld jE rfl ((H.ro a0).x iS (by decide) (by first|omega|(simp;omega)) ((({}:Ct.Node),({}:Lq)),(0:Int)) 14 (.int .i64 k) (by rw[hz];rfl)))<|cs (ca eF rfl) ((tE n.aD k _ hb64).mono ?_)
 rintro _ _ ⟨rfl,rfl⟩
 refine⟨_,rfl,h.hs (.c r1 .n),?_⟩
 refine ef (sg rfl) (h.hs (.c r1 .n))<|xz<|nx<|sq<|rg<|st (mv rfl)<|st (nc rfl rfl)<|st (fa qD rfl)<|st (fa kU rfl)<|st (ld Qf rfl ((h.ro a1).x iS (by decide) (by first|omega|(simp;omega)) ((({}:Ct.Node),({}:Lq)),(0:Int)) 3 (.int .u64 (n.aD:Int)) (by rw[hz];rfl)))<|st (mv rfl)<|cl (ca eF rfl) ((SK n.aD ((Bm.aO n.aD k:Nat):Int) _ (V6 S h a3) hb64).mono ?_)
 rintro _ _ ⟨rfl,rfl⟩
 refine⟨_,rfl,?_⟩
 refine st (sg rfl)<|xe<|nx<|sq<|sq<|rg<|st (mv rfl)<|st (bi rfl rfl rfl)<|st (mv rfl)<|gT rfl rfl h1<|st (mv rfl)<|gT rfl rfl h1<|st (mv rfl)<|gT rfl rfl h1<|st (nc rfl rfl)<|gT rfl rfl h1<|st (fa qD rfl)<|gT rfl rfl h1<|st (fa kF rfl)<|gT rfl rfl h1<|st (ld Jq rfl ((h.ro a1).x iS (by decide) (by first|omega|(simp;omega)) ((({}:Ct.Node),({}:Lq)),(0:Int)) 4 (.slice pb n.aA.length cb) (by rw[hz];rfl)))<|gT rfl rfl h1<|st (ln vC rfl rfl)<|gT rfl rfl h1<|st (bi rfl rfl rfl)<|st (pF rfl h1 rfl)<|xe<|nx<|cf rfl h2<|sk<|nx<|sq<|?_
 have h:=SH.Ll h a2 (z:=(n,(⟨pb,cb,pp,cp⟩:Lq))) (List.mem_map.2 ⟨_,get_mem (by omega) hz,rfl⟩)
 have h:SH B w (bV 1 (.slice pb n.aA.length cb) n.aA.length (n.aA.map (Value.int .i64))::bV 2 (.slice pp n.aF.length cp) n.aF.length (n.aF.flatMap aR)::bl ib ([↑t.root,↑t.readOnly,↑sd,.slice (some ⟨b1,0,none⟩) zs.length cq,.slice pw wt.length cw]) 72::aU 199 15 (.slice (some ⟨b1,0,none⟩) zs.length cq) zs.length (zs.flatMap gI)::bE (zs.map Prod.fst)::S.a s::L):=SH.se (l:=[aY n (⟨pb,cb,pp,cp⟩),cH n (⟨pb,cb,pp,cp⟩)]) h
 have h4:0<=(⟨n,k⟩:Ct.Place).idx:=by have:=bI h1;omega
 have h5:Bm.aO n.aD k<n.aA.length:=by have:=bI h2;unfold Ct.Place.pos at this;dsimp only at this;omega
 have h6:Bm.at_ n.aD ((Bm.aO n.aD k:Nat):Int)<=64:=h3
 have h7:0<=Bm.at_ n.aD ((Bm.aO n.aD k:Nat):Int):=h4
 refine rg<|st (mv rfl)<|st (mv rfl)<|st (bw rfl rfl (gN (c:=Bm.at_ n.aD ((Bm.aO n.aD k:Nat):Int)+1) (by omega) (by omega) (by omega)))<|st (nc rfl rfl)<|st (fa Oq rfl)<|sf (N4 (i:=j) (o:=14) h Bf rfl rfl (by omega) u3)<|?_
 rintro _ w h
 rw[aA3 zs j (Bm.at_ n.aD ((Bm.aO n.aD k:Nat):Int)+1) (by omega),hz]at h
 have e2:(zs.set j ((n,(⟨pb,cb,pp,cp⟩:Lq)),Bm.at_ n.aD ((Bm.aO n.aD k:Nat):Int)+1)).getD j ((({}:Ct.Node),({}:Lq)),(0:Int))=((n,(⟨pb,cb,pp,cp⟩:Lq)),Bm.at_ n.aD ((Bm.aO n.aD k:Nat):Int)+1):=ZG (by omega)
 refine xe<|nx<|sq<|rg<|st (mv rfl)<|st (nc rfl rfl)<|st (fa qD rfl)<|st (fa kF rfl)<|st (ld Jq rfl ((h.ro a3).x iS (by decide) (by first|omega|(simp;omega)) ((({}:Ct.Node),({}:Lq)),(0:Int)) 4 (.slice pb n.aA.length cb) (by rw[e2];rfl)))<|st (mv rfl)<|?_
 obtain⟨b3,o4,rfl⟩:=h.fq a0 (by omega)
 refine st (ix (j:=Bm.aO n.aD k) vC vD rfl rfl (by omega))<|st (ld fS rfl ((h.rr a0).i (by omega)))<|st (sg rfl)<|st (sg rfl)<|xe<|nx<|rt<|?_
 refine rr (gE results99 rfl rfl)<|⟨rfl,h.drop.drop⟩
theorem Y4{b x:Nat}(h:x∈Bm.indices b):x<64:=by
 unfold Bm.indices Bm.Nu at h
 have:=(List.mem_filter.1 h).1
 exact List.mem_range.1 this
theorem aBj(p:Ct.Place)(hb:p.node.aD<18446744073709551616):p.idx<=64:=by
 unfold Ct.Place.idx Bm.at_
 split
 ·rename_i h
  have hm:=qR (l:=Bm.indices p.node.aD) (n:=((p.pos:Int)).toNat) (by omega)
  have:=Y4 hm
  rw[eX,fM (by omega)]
  simp only[Option.getD_some];omega
 ·omega
def P1(zs:List ((Ct.Node×Lq)×Int))(j:Nat)(n:Ct.Node)(q:Lq)(k:Int):List ((Ct.Node×Lq)×Int):=bif (⟨n,k⟩:Ct.Place).out then zs else zs.set j ((n,q),(⟨n,k⟩:Ct.Place).idx+1)
def Y'(n:Ct.Node)(k:Int):Int:=bif (⟨n,k⟩:Ct.Place).out then 0 else(⟨n,k⟩:Ct.Place).branch
theorem LH(S:dN)[Um S](ib:Nat)(t:Ct.bC)(sd:Bool)(zs:List ((Ct.Node×Lq)×Int))(wt:List Ct.bN)(j:Nat)(ps pw:Option Addr)(cq cw:Nat)(n:Ct.Node)(pb:Option Addr)(cb:Nat)(pp:Option Addr)(cp:Nat)(k:Int)(s:Ct.St)(h:SH B w (bl ib ([↑t.root,↑t.readOnly,↑sd,.slice ps zs.length cq,.slice pw wt.length cw]) 72::aU 199 15 (.slice ps zs.length cq) zs.length (zs.flatMap gI)::bE (zs.map Prod.fst)::S.a s::L))(hj:zs.length=j+1)(hjm:j<=1000000000)(hz:zs.getD j ((({}:Ct.Node),({}:Lq)),(0:Int))=((n,(⟨pb,cb,pp,cp⟩:Lq)),k))(hb64:n.aD<18446744073709551616):
  Calls prog 99 #[↑ib] w λe w'=>e=.returned (.tuple #[.int .i64 (Y' n k),.bool (!(⟨n,k⟩:Ct.Place).out)])/\SH B w' (bl ib ([↑t.root,↑t.readOnly,↑sd,.slice ps zs.length cq,.slice pw wt.length cw]) 72::aU 199 15 (.slice ps zs.length cq) zs.length ((P1 zs j n ⟨pb,cb,pp,cp⟩ k).flatMap gI)::bE (zs.map Prod.fst)::S.a s::L):=by
 unfold P1 Y'
 cases h1:decide ((⟨n,k⟩:Ct.Place).idx<0)with
 |true=>
  have ho:(⟨n,k⟩:Ct.Place).out=true:=by unfold Ct.Place.out;rw[h1];rfl
  rw[ho];exact Y6 S ib t sd zs wt j ps pw cq cw n pb cb pp cp k s h hj hjm hz hb64 h1
 |false=>
  cases h2:decide ((n.aA.length:Int)<=(((⟨n,k⟩:Ct.Place).pos:Nat):Int))with
  |true=>
   have ho:(⟨n,k⟩:Ct.Place).out=true:=by unfold Ct.Place.out;rw[h1,h2];rfl
   rw[ho];exact Y2 S ib t sd zs wt j ps pw cq cw n pb cb pp cp k s h hj hjm hz hb64 h1 h2
  |false=>
   have ho:(⟨n,k⟩:Ct.Place).out=false:=by unfold Ct.Place.out;rw[h1,h2];rfl
   rw[ho];exact aB4 S ib t sd zs wt j ps pw cq cw n pb cb pp cp k s h hj hjm hz hb64 h1 h2 (aBj _ hb64)
theorem CZ(p:Ct.bN)(h:SH B w (L)):
  Calls prog 98 #[.agg (aR p).toArray] w λe w'=>e=.returned (.agg (zQ (EY (Ct.Jo p))).toArray)/\SH B w' L:=by
 refine Ea (args:=[_]) func98 rfl ntmps98 rfl ?_
 refine sq<|rg<|sf (bx h rfl rfl)<|?_
 rintro _ w ⟨b1,rfl,h⟩
 refine sf (al h nN)<|?_
 rintro _ w ⟨b2,rfl,h⟩
 refine xe<|nx<|sq<|rg<|st (fa Yx rfl)<|st (ld uK rfl (h.c a1 rfl))<|st (fa U2 rfl)<|st (ld Qf rfl (h.c a1 rfl))<|st (bd [.int .i64 0,↑true,.int .u64 (p.value:Int),↑p.key,.int .i64 0,.int .i64 0,.int .i64 0,↑false] Oo rfl (by kernel_rfl))<|cl (ca eF rfl) ((gV ({found:=true,value:=p.value,key:=p.key}:Ct.Result) (h.fr .n)).mono ?_)
 rintro _ w ⟨rfl,h⟩
 refine⟨_,rfl,?_⟩
 refine sf (so h rfl rfl rfl iR (eO _) (.r (.r (.r (.r (.r (.r (.r (.r (.r (.r (.r (.r (.r (.r .d)))))))))))))) u0)<|?_
 rintro _ w h
 refine xe<|nx<|rt<|?_
 refine rr (bP results98 rfl (h.b a0) iO)<|⟨rfl,h.drop.drop⟩
theorem X1(ib:Nat)(t:Ct.bC)(sd:Bool)(plc:List Ct.Place)(n:Ct.Node)(q:Lq)(h:SH B w (Di ib t ⟨sd,plc,[]⟩::aM n q::L))(hf:n.Fit 100000000001)(hsl:plc.length<=1000000000):
  Calls prog 104 #[↑ib,.agg (aL n q).toArray] w λe w'=>e=.returned (.tuple #[])/\SH B w' (Di ib t (Ct.hB.meet ⟨sd,plc,[]⟩ n)::L):=by
 obtain⟨⟨ps,cq,pw,cw,zs⟩,hq,h⟩:=SH.ito h
 dsimp only at hq
 have h:SH B w (bl ib ([↑t.root,↑t.readOnly,↑sd,.slice ps zs.length cq,.slice pw 0 cw]) 72::aU 199 15 (.slice ps zs.length cq) zs.length (zs.flatMap gI)::bE (zs.map Prod.fst)::Vh 146 2 (.slice pw 0 cw) 0 []::aM n q::L):=h
 have hzl:zs.length=plc.length:=by rw[<- hq];simp
 have hpl:=hf.1.2.1
 refine Ea (args:=[_,_]) func104 rfl ntmps104 rfl ?_
 refine sq<|rg<|sf (bx h rfl rfl)<|?_
 rintro _ w ⟨b1,rfl,h⟩
 refine xe<|nx<|sq<|rg<|st (fa nO rfl)<|st (ld jE rfl (h.c a0 rfl))<|xe<|nx<|bk<|sq<|rg<|st (bi rfl rfl rfl)<|st (sg rfl)<|xe<|nx<|?_
 rcases mD ((n.kind:Int)==3)with hd2|hd2
 have hg3:=eq_of_beq hd2
 refine ct rfl hd2<|Uc (F:=[bl ib ([↑t.root,↑t.readOnly,↑sd,.slice ps zs.length cq,.slice pw 0 cw]) 72,bl b1 (aL n q) 112]) [(true,[1,3,5,7,9,11,13,14,16,19,21]),(false,[22])] (by kernel_rfl) h (λw h=>(hC (h.at_ a1) (hC (h.at_ a0) hN))) λw h=>VP<|tk (λW H=>mv rfl)<|tk (λW H=>mv rfl)<|tk (λW H=>nc rfl rfl)<|tk (λW H=>fa pK rfl)<|tk (λW H=>ld Ac rfl (H.c a0 rfl))<|tk (λW H=>gJ rfl (dK (H.b a1)) iI)<|tk (λW H=>bd [↑n.kind,↑n.gen,↑n.main,.int .u64 (n.aD:Int),.slice q.pb n.aA.length q.cb,.int .u64 (n.hash:Int),↑n.key,.int .u64 (n.value:Int),.slice q.pp n.aF.length q.cp,↑n.prev,↑n.dC,↑n.aK,↑n.new,↑n.status,.int .i64 0] aAz rfl (by kernel_rfl))<|ff (bu [↑n.kind,↑n.gen,↑n.main,.int .u64 (n.aD:Int),.slice q.pb n.aA.length q.cb,.int .u64 (n.hash:Int),↑n.key,.int .u64 (n.value:Int),.slice q.pp n.aF.length q.cp,↑n.prev,↑n.dC,↑n.aK,↑n.new,↑n.status,.int .i64 0] h Gc T1 rfl (by kernel_rfl) rfl (by decide) (by decide))<|?_
 rintro _ w ⟨b4,rfl,h⟩
 refine⟨(hC (h.at_ a2) (hC (h.at_ a1) hN)),?_⟩
 refine ff (ap h Gc rfl T1 rfl (by decide) rfl rfl (λ_=>u3) (h.ro a0) (by simp[Value.oneCell']) (aBy zs ((n,q),(0:Int))) (fW (enc:=gI) zs ((n,q),(0:Int))) (by unfold maxLen;simp;omega) (by simp;omega))<|?_
 rintro _ w ⟨p5,c6,rfl,h⟩
 refine⟨(hC (h.at_ a2) (hC (h.at_ a1) hN)),?_⟩
 refine tk (λW H=>nc rfl rfl)<|tk (λW H=>fa pK rfl)<|Zp<|ff (so h rfl rfl rfl aAg rfl (.s (.s (.s (.r .d)))) u2)<|?_
 rintro _ w h
 refine⟨trivial,?_⟩
 refine xz<|bn<|?_
 refine rn (rK results104)<|?_
 have em:Ct.hB.meet ⟨sd,plc,[]⟩ n=⟨sd,⟨n,0⟩::plc,[]⟩:=by unfold Ct.hB.meet;rw[show (n.kind==3)=true from hd2];rfl
 rw[em]
 have h:=SH.HU (SH.se (l:=[aY n q,cH n q]) (h.fr (.c r6 (.c r4 .n))))
 rw[show zs.map Prod.fst++[(n,q)]=(zs++[((n,q),(0:Int))]).map Prod.fst by simp]at h
 exact⟨rfl,SH.d6 ⟨p5,c6,pw,cw,zs++[((n,q),(0:Int))]⟩ (by rw[tX,List.reverse_append,hq];rfl) ((h.fr (.c r1 (.c r1 .n))).drop.drop.fr (.c r1 (.c r1 (.c r0 (.c r0 .n)))))⟩
 have hg7:=Pe hd2
 refine cf rfl hd2<|sq<|rg<|st (bi rfl rfl rfl)<|st (sg rfl)<|xe<|nx<|?_
 rcases mD ((n.kind:Int)==5)with hd8|hd8
 have hg9:=eq_of_beq hd8
 refine ct rfl hd8<|Uc (F:=[bl ib ([↑t.root,↑t.readOnly,↑sd,.slice ps zs.length cq,.slice pw 0 cw]) 72,bl b1 (aL n q) 112]) [(true,[1,3,5,7,9,11,13,15,17,19,20,22,25,27]),(false,[28])] (by kernel_rfl) h (λw h=>(hC (h.at_ a1) (hC (h.at_ a0) hN))) λw h=>VP<|tk (λW H=>mv rfl)<|tk (λW H=>mv rfl)<|tk (λW H=>nc rfl rfl)<|tk (λW H=>fa vL rfl)<|tk (λW H=>ld nL rfl (H.c a0 rfl))<|tk (λW H=>fa tS rfl)<|tk (λW H=>ld uK rfl (H.c a1 rfl))<|tk (λW H=>fa Le rfl)<|tk (λW H=>ld Qf rfl (H.c a1 rfl))<|tk (λW H=>bd [↑n.key,.int .u64 (n.value:Int)] Qm rfl (by kernel_rfl))<|ff (bu [↑n.key,.int .u64 (n.value:Int)] h oW Pz rfl (by kernel_rfl) rfl (by decide) (by decide))<|?_
 rintro _ w ⟨b10,rfl,h⟩
 refine⟨(hC (h.at_ a2) (hC (h.at_ a1) hN)),?_⟩
 refine ff (apw h a5 (aC0 h a0 oW (by simp[Value.oneCell'])) oW rfl Pz rfl (by decide) rfl rfl (λ_=>u5) (by unfold maxLen;omega) (by omega))<|?_
 rintro _ w ⟨p11,c12,rfl,h⟩
 refine⟨(hC (h.at_ a2) (hC (h.at_ a1) hN)),?_⟩
 refine tk (λW H=>nc rfl rfl)<|tk (λW H=>fa vL rfl)<|Zp<|ff (so h rfl rfl rfl AG rfl (.s (.s (.s (.s (.r .d))))) u2)<|?_
 rintro _ w h
 refine⟨trivial,?_⟩
 refine xz<|bn<|?_
 refine rn (rK results104)<|?_
 have em:Ct.hB.meet ⟨sd,plc,[]⟩ n=⟨sd,plc,[⟨n.key,n.value⟩]⟩:=by unfold Ct.hB.meet;rw[show (n.kind==3)=false from hd2,show (n.kind==5)=true from hd8];rfl
 rw[em]
 exact⟨rfl,SH.d6 ⟨ps,cq,p11,c12,zs⟩ hq (h.fr (.c r0 (.c r0 (.c r4 .n)))).drop.drop.drop⟩
 have hg13:=Pe hd8
 refine cf rfl hd8<|sq<|rg<|st (bi rfl rfl rfl)<|st (sg rfl)<|xe<|nx<|?_
 rcases mD ((n.kind:Int)==6)with hd14|hd14
 have hg15:=eq_of_beq hd14
 refine ct rfl hd14<|Uc (F:=[bl ib ([↑t.root,↑t.readOnly,↑sd,.slice ps zs.length cq,.slice pw 0 cw]) 72,bl b1 (aL n q) 112]) [(true,[1,3,5,7,9,11,12,15,16,19,21]),(false,[22])] (by kernel_rfl) h (λw h=>(hC (h.at_ a1) (hC (h.at_ a0) hN))) λw h=>VP<|tk (λW H=>mv rfl)<|tk (λW H=>mv rfl)<|tk (λW H=>nc rfl rfl)<|tk (λW H=>fa vL rfl)<|tk (λW H=>ld nL rfl (H.c a0 rfl))<|tk (λW H=>gJ rfl (dK (H.b a1)) iI)<|cs (ca eF rfl) ((wP n q (h.fr (.c r5 .n)) hf.1.1 (lK hf.1.2.1 (by omega))).mono ?_)
 rintro _ w ⟨q16,rfl,h⟩
 have h:=SH.se (l:=[aY n q16,cH n q16]) h
 refine⟨_,rfl,(hC (h.at_ a3) (hC (h.at_ a2) hN)),?_⟩
 refine tk (λW H=>fd U0 rfl rfl)<|ff (apw h a6 (aCg h a1 oW (lU eU _)) oW rfl Pz rfl (by decide) rfl rfl (λ_=>u6) (by unfold maxLen;omega) (by omega))<|?_
 rintro _ w ⟨p17,c18,rfl,h⟩
 refine⟨(hC (h.at_ a3) (hC (h.at_ a2) hN)),?_⟩
 refine tk (λW H=>nc rfl rfl)<|tk (λW H=>fa vL rfl)<|Zp<|ff (so h rfl rfl rfl AG rfl (.s (.s (.s (.s (.r .d))))) u3)<|?_
 rintro _ w h
 refine⟨trivial,?_⟩
 refine xz<|bn<|?_
 refine rn (rK results104)<|?_
 have em:Ct.hB.meet ⟨sd,plc,[]⟩ n=⟨sd,plc,n.aF⟩:=by unfold Ct.hB.meet;rw[show (n.kind==3)=false from hd2,show (n.kind==5)=false from hd8,show (n.kind==6)=true from hd14];rfl
 rw[em]
 exact⟨rfl,SH.d6 ⟨ps,cq,p17,c18,zs⟩ hq h.drop.drop.drop⟩
 have hg19:=Pe hd14
 refine cf rfl hd14<|sk<|bn<|?_
 refine rn (rK results104)<|?_
 have em:Ct.hB.meet ⟨sd,plc,[]⟩ n=⟨sd,plc,[]⟩:=by unfold Ct.hB.meet;rw[show (n.kind==3)=false from hd2,show (n.kind==5)=false from hd8,show (n.kind==6)=false from hd14];rfl
 rw[em]
 exact⟨rfl,SH.d6 ⟨ps,cq,pw,cw,zs⟩ hq (h.fr (.c r0 (.c r4 .n))).drop.drop⟩
theorem aAu(S:dN)(pb:Nat)(hd:S.d+1<=346)(N:Nat)(t:Ct.bC)(i v:Int)(b:Bool)(s:Ct.St)(h:SH B w (Xp S pb v b::S.a s::L))(hs:Ct.Rm 60 s):
  Calls prog 101 #[.iface 130 (QQ pb),.agg [↑t.root,↑t.readOnly].toArray,↑i] w λe w'=>∃tb s' u v' b',(Ct.mM t i (λm=>.ret {ref:=m})).head s=(s',u)/\e=.returned (.pointer (some ⟨tb,0,none⟩))/\SH B w' (fD (oG S pb hd) Mi N tb u 0::Xp S pb v' b'::S.a s'::L):=by
 refine(OV (oG S pb hd) N t i s (DL (FF h)) hs).mono ?_
 rintro e w' ⟨tb,s',u,hq,rfl,h⟩
 obtain⟨v',b',h⟩:=IX (h.fr (.c r1 .n))
 exact⟨tb,s',u,v',b',hq,rfl,h.fr (.c r2 .n)⟩
def Ow(S:dN)(ib:Nat)(t:Ct.bC)(N n:Nat):Prop:=∀(it:Ct.hB) (B w:World) (L:List As) (s:Ct.St),SH B w (Di ib t it::S.a s::L)->Ct.Rm 60 s->Ct.xO n it->
 Calls prog 62 #[↑ib,S.v] w λe w'=>CP S (AT ib t) n B (Ct.jG t N it) s L e w'
theorem HR(S:dN)(hd:S.d+1<=346)(ib:Nat)(t:Ct.bC)(pb:Nat)(hd':S.d+1<=346)(n cb0 cb1:Nat)(sd:Bool)(plc:List Ct.Place)(x:Int)(s:Ct.St)(h:SH B w (bl pb ([S.v,.int .i64 0,↑false]) 132::se [rb cb0 [↑ib] 37,rb cb1 [↑x] 45,Di ib t ⟨sd,plc,[]⟩]::S.a s::L))(hs:Ct.Rm 60 s):
  Calls prog 100 #[.iface 130 ↑pb,↑cb0,↑cb1] w λe w'=>∃tb s1 u1 v1 b1,(Ct.mM t x (λm=>.ret {ref:=m})).head s=(s1,u1)/\e=.returned (.pointer (some ⟨tb,0,none⟩))/\SH B w' (fD (oG S pb hd') Mi n tb u1 0::Xp S pb v1 b1::Di ib t ⟨sd,plc,[]⟩::S.a s1::L):=by
 have h:=SH.se (l:=[_,_,_]) (h.fr (.c r1 .n))
 obtain⟨⟨ps,cq,pw,cw,zs⟩,hq,h⟩:=SH.ito (h.fr (.c r2 .n))
 dsimp only at hq
 have h:SH B w (bl ib ([↑t.root,↑t.readOnly,↑sd,.slice ps zs.length cq,.slice pw 0 cw]) 72::aU 199 15 (.slice ps zs.length cq) zs.length (zs.flatMap gI)::bE (zs.map Prod.fst)::Vh 146 2 (.slice pw 0 cw) 0 []::rb cb0 ([↑ib]) 37::rb cb1 ([↑x]) 45::bl pb ([S.v,.int .i64 0,↑false]) 132::S.a s::L):=h
 refine Ea (args:=[_,_,_]) func100 rfl ntmps100 rfl ?_
 refine sq<|rg<|st (sg rfl)<|xe<|nx<|sq<|dZ [1,3,5,7,9,11,12,14] (by kernel_rfl) h (.c r4 (.c r0 (.c r3 .n))) λw h=>tk (λW H=>mv rfl)<|tk (λW H=>ld sM rfl (H.B8 a0 rfl))<|tk (λW H=>nc rfl rfl)<|tk (λW H=>fa Vb rfl)<|tk (λW H=>gJ (cs:=[↑t.root,↑t.readOnly]) rfl (eP (H.b a1) 0 rfl) oB)<|tk (λW H=>ld fS rfl (H.B8 a2 rfl))<|cs (ca eF rfl) ((aAu S pb hd' n t x 0 false s (h.fr (.c r6 (.c r6 .n))) hs).mono ?_)
 rintro _ w ⟨tb1,s2,uz3,vz4,bz5,hq6,rfl,h⟩
 refine⟨_,rfl,h.hs (.c r7 (.c r3 (.c r6 .n))),?_⟩
 refine ef (sg rfl) (h.hs (.c r7 (.c r3 (.c r6 .n))))<|xz<|nx<|rt<|?_
 refine rr (jP results100 rfl)<|?_
 have h:=SH.d6 (it:=⟨sd,plc,[]⟩) ⟨ps,cq,pw,cw,zs⟩ hq (h.fr (.c r3 (.c r3 (.c r3 (.c r3 .n)))))
 exact⟨tb1,s2,uz3,vz4,bz5,hq6,rfl,((h.fr (.c r4 (.c r4 .n))).drop.drop.fr (.c r1 (.c r1 (.c r0 (.c r0 .n)))))⟩
theorem JE(S:dN)(hd:S.d+1<=346)(ib:Nat)(t:Ct.bC)(N m cb0 cb1:Nat)(hrec:Ow S ib t N m)(sd:Bool)(plc:List Ct.Place)(r:Ct.Result)(s:Ct.St)(h:SH B w (rb cb0 ([↑ib]) 37::rb cb1 [S.v] 86::se [LJ r,Di ib t ⟨sd,plc,[]⟩]::S.a s::L))(hs:Ct.Rm 70 s)(hok:Ct.xO (m+1) ⟨sd,plc,[]⟩):
  Calls prog 103 #[.agg (Mf r).toArray,↑cb0,↑cb1] w λe w'=>CP S (AT ib t) m B (.node r.ref λq=>Ct.jG t N (Ct.hB.meet ⟨sd,plc,[]⟩ q)) s L e w':=by
 have h:=SH.se (l:=[_,_]) (h.fr (.c r2 .n))
 have h:=SH.se (l:=[]) h
 have hfq:(s.node r.ref).Fit 100000000001:=(hs.node r.ref).mono (by have:=hs.zP;unfold Ct.St.size at this;omega)
 have hplc:plc.length<=1000000000:=by have:=hok.deep;dsimp only at this;omega
 refine Ea (args:=[_,_,_]) func103 rfl ntmps103 rfl ?_
 refine sq<|rg<|sf (bx h rfl rfl)<|?_
 rintro _ w ⟨b1,rfl,h⟩
 refine sf (al h nN)<|?_
 rintro _ w ⟨b2,rfl,h⟩
 refine xe<|nx<|sq<|?_
 refine dZ [1,3,5,7,8,10] (by kernel_rfl) h (.c r3 (.c r3 (.c r1 .n))) λw h=>tk (λW H=>ld sM rfl (H.B8 a0 rfl))<|tk (λW H=>ld qH rfl (H.B8 a1 rfl))<|tk (λW H=>fa aA5 rfl)<|tk (λW H=>ld fS rfl (H.c a2 rfl))<|cs (ci (S.sN h a5) rfl rfl) ((cK S s r.ref (h.fr (.c r5 .n)) hs).mono ?_)
 rintro _ w ⟨q3,rfl,h⟩
 refine⟨_,rfl,h.hs (.c r5 (.c r5 (.c r3 .n))),?_⟩
 refine cs (ca eF rfl) ((X1 ib t sd plc (s.node r.ref) q3 (h.fr (.c r4 (.c r0 .n))) hfq hplc).mono ?_)
 rintro _ w ⟨rfl,h⟩
 refine⟨_,rfl,h.hs (.c r4 (.c r4 (.c r3 .n))),?_⟩
 refine xz<|nx<|sq<|rg<|st (ld sM rfl (h.B8 a4 rfl))<|st (ld qH rfl (h.B8 a5 rfl))<|cl (ca eF rfl) ((hrec (Ct.hB.meet ⟨sd,plc,[]⟩ (s.node r.ref)) _ _ _ s (h.fr (.c r0 (.c r0 .n))) (hs.less (by decide)) (hok.meet hfq)).mono ?_)
 rintro _ w ⟨s4,t5,c6,hq7,rfl,h⟩
 refine⟨_,rfl,?_⟩
 refine sf (so h rfl rfl rfl iR (eO _) (.r (.r (.r (.r (.r (.r (.r (.r (.r (.r (.r (.r (.r (.r .d)))))))))))))) u2)<|?_
 rintro _ w h
 refine xe<|nx<|rt<|?_
 refine rr (bP results103 rfl (h.b a2) iO)<|?_
 exact fI (qN (hq7)) (h.fr (.c r2 (.c r2 (.c r2 (.c r2 .n))))).drop.drop.drop.drop
theorem Ug(S:dN)(hd:S.d+1<=346)(ib:Nat)(t:Ct.bC)(N n:Nat)(hn:n<=8000000000000000000)(hrec:∀j,j<n->Ow S ib t N j)(sd:Bool)(plc:List Ct.Place)(x:Int)(s:Ct.St)(h:SH B w (Di ib t (⟨sd,plc,[]⟩)::S.a s::L))(hs:Ct.Rm 60 s)(hok:Ct.xO n ⟨sd,plc,[]⟩):
  Calls prog 65 #[↑ib,S.v,↑x] w λe w'=>CP S (AT ib t) n B (Ct.xI t N ⟨sd,plc,[]⟩ x) s L e w':=by
 refine Ea (args:=[_,_,_]) func65 rfl ntmps65 rfl ?_
 refine sq<|rg<|sf (bx h rfl rfl)<|?_
 rintro _ w ⟨b1,rfl,h⟩
 refine sf (bx h rfl rfl)<|?_
 rintro _ w ⟨b2,rfl,h⟩
 refine sf (bx h rfl rfl)<|?_
 rintro _ w ⟨b3,rfl,h⟩
 refine sf (al h nN)<|?_
 rintro _ w ⟨b4,rfl,h⟩
 refine xe<|nx<|sq<|?_
 have h:=SH.kX (h.fr (.c r3 .n))
 have h:=SH.kX (h.fr (.c r2 .n))
 refine rg<|st (mf rfl rfl)<|st (sg rfl)<|xe<|nx<|sq<|?_
 have h:=SH.kX (h.fr (.c r3 .n))
 refine rg<|st (ld qH rfl (h.B8 a0 rfl))<|st (mv rfl)<|st (mf rfl rfl)<|?_
 have h:=h.eT a0
 have h:=h.eT a3
 have h:=h.fr (.c r0 (.c r0 .n))
 have h:=aCo (S:=S) (F:=AT ib t) (n:=n) (j:=70) (args:=Sq id) (Q:=λ_ _=>True) (M:=λb=>se [LJ b,Di ib t ⟨sd,plc,[]⟩]) (k:=(λr:Ct.Result=>.node r.ref λq=>Ct.jG t N (Ct.hB.meet ⟨sd,plc,[]⟩ q))) (v:=(.fn 103 [] [↑b1,↑b2])) [rb b1 [↑ib] 37,rb b2 [S.v] 86] h λm' hm' B' w' L' s' x' _ h' hs'=>pR eF (JE S hd ib t N m' b1 b2 (hrec m' hm') sd plc x' s' h' hs' (hok.less hm'))
 have h:=SH.is (l:=[rb b1 [↑ib] 37,rb b3 [↑x] 45,Di ib t ⟨sd,plc,[]⟩]) (h.fr (.c r3 (.c r2 (.c r3 .n))))
 refine cl (ca eF rfl) ((P4 S hd id LJ (Di ib t ⟨sd,plc,[]⟩) (se [rb b1 [↑ib] 37,rb b3 [↑x] 45,Di ib t ⟨sd,plc,[]⟩]) (λ_ _=>True) (AT ib t) (λ_ _ _ _ h=>h) n (.fn 100 [] [↑b1,↑b3]) (.fn 103 [] [↑b1,↑b2]) (λr:Ct.Result=>.node r.ref λq=>Ct.jG t N (Ct.hB.meet ⟨sd,plc,[]⟩ q)) (Ct.mM t x λm=>.ret {ref:=m}) s (λB w L pb hd' h=>pR eF (HR S hd ib t pb hd' n b1 b3 sd plc x s h hs)) (h.fr (.c r0 (.c r0 (.c r2 .n)))) hs (Ct.Wc λ_=>Ct.Pn) (Ct.pL _ _) rfl hn).mono ?_)
 rintro _ w ⟨s5,t6,c7,hq8,rfl,h⟩
 refine⟨_,rfl,?_⟩
 refine sf (so h rfl rfl rfl iR (eO _) (.r (.r (.r (.r (.r (.r (.r (.r (.r (.r (.r (.r (.r (.r .d)))))))))))))) u3)<|?_
 rintro _ w h
 refine xe<|nx<|rt<|?_
 refine rr (bP results65 rfl (h.b a3) iO)<|?_
 exact fI ((Ct.R9 t N ⟨sd,plc,[]⟩ x s).trans (hq8)) (h.fr (.c r2 (.c r2 .n))).drop.drop
theorem rev_last{zs:List ((Ct.Node×Lq)×Int)}{j:Nat}{z d:(Ct.Node×Lq)×Int}(hj:zs.length=j+1)(hz:zs.getD j d=z):(zs.map HZ).reverse=HZ z::((zs.take j).map HZ).reverse:=by
 have h1:zs=zs.take j++[z]:=by
  rw[<- hz,eX,fM (by omega)]
  conv=>lhs;rw[<- RF j zs,cE (by omega)]
  rw[MA (by omega)];rfl
 conv=>lhs;rw[h1]
 simp
theorem ZL{zs:List ((Ct.Node×Lq)×Int)}{j:Nat}{x:(Ct.Node×Lq)×Int}(hj:zs.length=j+1):((zs.set j x).map HZ).reverse=HZ x::((zs.take j).map HZ).reverse:=by
 have h:=rev_last (zs:=zs.set j x) (j:=j) (z:=x) (d:=x) (by simpa using hj) (ZG (by omega))
 rw[h];congr 3
 rw[List.take_set_of_le (bD _)]
theorem SH.aB3{xs ys:List (Ct.Node×Lq)}(h:SH B w (bE xs::L))(hs:∀z∈ys,z∈xs):SH B w (bE ys::L):=h.imp λO R hA=>⟨hA.1,λz hz=>hA.2.1 z (hs z hz),hA.2.2⟩
theorem SH.aCt{e:TypeId}{sz m c k:Nat}{p:Option Addr}{xs:List Value}(h:SH B w (aU e sz (.slice p m c) m xs::L))(hk:k<=m):SH B w (aU e sz (.slice p k c) k (xs.take (k*sz))::L):=h.imp λO R hA=>by
 refine⟨⟨?_,?_⟩,λj=>by rw[hA.2.1 j];cases p<;>rfl,hA.2.2⟩
 ·rw[Hg,hA.1.1];exact jI (Bq _ hk)
 ·rcases hA.1.2 with⟨h1,h2⟩|⟨g,cap,cur,h1,h2,h3,h4,h5,h6,h7⟩
  ·injection h1 with h1 _ h8;subst h1 h8;obtain rfl:k=0:=by omega
   exact .inl ⟨rfl,rfl⟩
  ·injection h1 with h1 _ h8;subst h1 h8
   exact .inr ⟨g,c,cur,rfl,h2,h3,by omega,h5,h6,by rw[<- h7,List.take_take,jI (Bq _ hk)]⟩
theorem aC8{n:Ct.Node}{M:Nat}(h:n.Fit M):n.aD<18446744073709551616:=h.1.2.2.1
theorem aAy{w:World}{b o:Nat}{m:Nat}{p:Ct.bN}{wt:List Ct.bN}(h:Rd w b o 2 m ((p::wt).flatMap aR)):∀j v,(aR p)[j]?=some v->w.cell? ⟨b,o+0*2+j,none⟩=some v:=λj v hv=>by
 have:=h.2 j v (by rw[dI,xD (List.getElem?_eq_some_iff.1 hv).1];exact hv)
 simpa using this
theorem yA(S:dN)(ib:Nat)(t:Ct.bC)(N n:Nat)(sd:Bool)(plc:List Ct.Place)(p:Ct.bN)(wt:List Ct.bN)(s:Ct.St)(h:SH B w (Di ib t ⟨sd,plc,p::wt⟩::S.a s::L))(hwl:wt.length<=200000000003):
  Calls prog 62 #[↑ib,S.v] w λe w'=>CP S (AT ib t) n B (Ct.Lk t (Ct.jG t N) ⟨sd,plc,p::wt⟩) s L e w':=by
 obtain⟨⟨ps,cq,pw,cw,zs⟩,hq,h⟩:=SH.ito h
 dsimp only at hq
 have h:SH B w (bl ib ([↑t.root,↑t.readOnly,↑sd,.slice ps zs.length cq,.slice pw (wt.length+1) cw]) 72::aU 199 15 (.slice ps zs.length cq) zs.length (zs.flatMap gI)::bE (zs.map Prod.fst)::Vh 146 2 (.slice pw (wt.length+1) cw) (wt.length+1) ((p::wt).flatMap aR)::S.a s::L):=h
 refine Ea (args:=[_,_]) func62 rfl ntmps62 rfl ?_
 refine sq<|rg<|sf (al h nN)<|?_
 rintro _ w ⟨b1,rfl,h⟩
 refine xe<|nx<|bk<|?_
 refine lp (α:=Nat) (λρ=>(.c 0 ↑ib (.c 1 (S.v) (.c 4 ↑b1 .n)))) (λρ w=>SH B w (bl b1 ([.int .i64 0,.int .i64 0,.int .i64 0,.int .i64 0,.nilFunc,.nilFunc,.int .i64 0,↑false,.int .u64 0,.string .empty,.int .i64 0,.int .i64 0,.int .i64 0,↑false]) 91::bl ib ([↑t.root,↑t.readOnly,↑sd,.slice ps zs.length cq,.slice pw (wt.length+1) cw]) 72::aU 199 15 (.slice ps zs.length cq) zs.length (zs.flatMap gI)::bE (zs.map Prod.fst)::Vh 146 2 (.slice pw (wt.length+1) cw) (wt.length+1) ((p::wt).flatMap aR)::S.a s::L)/\True) (λρ=>0) 0 ⟨rfl,rfl,rfl,trivial⟩ ⟨h,trivial⟩ ?_
 rintro z w ⟨h,hz0⟩
 refine bk<|sq<|sq<|rg<|st (mv rfl)<|st (nc rfl rfl)<|st (fa vL rfl)<|st (ld nL rfl (h.c a1 rfl))<|st (ln oW rfl rfl)<|st (bi rfl rfl rfl)<|xe<|nx<|ct rfl (cW (by omega))<|sq<|rg<|st (mv rfl)<|st (nc rfl rfl)<|st (fa vL rfl)<|st (ld nL rfl (h.c a1 rfl))<|?_
 obtain⟨b2,o3,rfl⟩:=h.wfp a4 (by omega)
 refine st (ix (j:=0) oW tO rfl rfl (by omega))<|st (gJ (cs:=aR p) rfl (aAy (h.wr a4)) vI)<|sf (al h JP)<|?_
 rintro _ w ⟨b4,rfl,h⟩
 refine sf (so h rfl rfl rfl tO rfl (.r (.r .d)) u0)<|?_
 rintro _ w h
 refine xe<|nx<|sq<|rg<|st (mv rfl)<|st (mv rfl)<|st (nc rfl rfl)<|st (fa vL rfl)<|st (ld nL rfl (h.c a2 rfl))<|st (YD (k:=1) oW tO rfl rfl (by omega) (h.aD0 a5))<|?_
 have h:=SH.wtl (k:=1) (h.fr (.c r5 .n)) (by omega)
 have h:SH B w (Vh 146 2 (.slice (tl (some ⟨b2,o3,none⟩) cw 1 2) wt.length (cw-1)) wt.length (wt.flatMap aR)::bl b4 (aR p) 146::bl b1 ([.int .i64 0,.int .i64 0,.int .i64 0,.int .i64 0,.nilFunc,.nilFunc,.int .i64 0,↑false,.int .u64 0,.string .empty,.int .i64 0,.int .i64 0,.int .i64 0,↑false]) 91::bl ib ([↑t.root,↑t.readOnly,↑sd,.slice ps zs.length cq,.slice (some ⟨b2,o3,none⟩) (wt.length+1) cw]) 72::aU 199 15 (.slice ps zs.length cq) zs.length (zs.flatMap gI)::bE (zs.map Prod.fst)::S.a s::L):=h
 refine st (nc rfl rfl)<|st (fa vL rfl)<|sf (so h rfl rfl rfl AG rfl (.s (.s (.s (.s (.r .d))))) u3)<|?_
 rintro _ w h
 refine xe<|nx<|sq<|rg<|st (gJ rfl (dK (h.b a1)) vI)<|cl (ca eF rfl) ((CZ p (h.fr .n)).mono ?_)
 rintro _ w ⟨rfl,h⟩
 refine⟨_,rfl,?_⟩
 refine sf (so h rfl rfl rfl iR (eO _) (.r (.r (.r (.r (.r (.r (.r (.r (.r (.r (.r (.r (.r (.r .d)))))))))))))) u2)<|?_
 rintro _ w h
 refine xe<|nx<|rt<|tr<|bt<|tr<|bt<|?_
 refine rr (bP results62 rfl (h.b a2) iO)<|?_
 have h:=SH.d6 (it:=⟨sd,plc,wt⟩) ⟨ps,cq,(tl (some ⟨b2,o3,none⟩) cw 1 2),(cw-1),zs⟩ hq (h.fr (.c r3 (.c r3 (.c r3 (.c r0 .n)))))
 have h:=kG (S:=S) (n:=n) (ρ:=Prod.fst) (M:=λz=>Di ib t z.2) (Ct.Jo p,⟨sd,plc,wt⟩) h
 exact fI rfl (h.fr (.c r1 (.c r1 .n))).drop.drop
theorem aCm{e:TypeId}{sz m c:Nat}{p:Option Addr}{xs:List Value}(h:SH B w L)(m':At L (aU e sz (.slice p m c) m xs)):m<=c:=by
 obtain⟨_,_,hA⟩:=h.at_ m'
 rcases hA.1.2 with⟨h1,h2⟩|⟨g,cap,cur,h1,_,_,h3,_⟩
 ·omega
 ·injection h1 with _ _ h1;omega
theorem YT{zs:List ((Ct.Node×Lq)×Int)}{j:Nat}{x d:(Ct.Node×Lq)×Int}{k:Int}(hj:zs.length=j+1)(hz:zs.getD j d=(x.1,k)):∀z∈(zs.set j x).map Prod.fst,z∈zs.map Prod.fst:=λz hm=>by
 obtain⟨a,ha,rfl⟩:=List.mem_map.1 hm
 rcases List.mem_or_eq_of_mem_set ha with ha|rfl
 ·exact List.mem_map.2 ⟨a,ha,rfl⟩
 ·exact List.mem_map.2 ⟨_,get_mem (by omega) hz,rfl⟩
theorem S1{zs:List ((Ct.Node×Lq)×Int)}{j:Nat}:∀z∈(zs.take j).map Prod.fst,z∈zs.map Prod.fst:=λz hm=>by
 obtain⟨a,ha,rfl⟩:=List.mem_map.1 hm
 exact List.mem_map.2 ⟨a,Br ha,rfl⟩
theorem okT{zs:List ((Ct.Node×Lq)×Int)}{j N:Nat}{nd:Ct.Node}{q:Lq}{k v:Int}{d:(Ct.Node×Lq)×Int}{sd:Bool}(hfz:∀z∈zs,z.1.1.Fit 100000000001)(hj:zs.length=j+1)(hz:zs.getD j d=((nd,q),k))(hdp:zs.length+N<=1000000000):Ct.xO N ⟨sd,⟨nd,v⟩::((zs.take j).map HZ).reverse,[]⟩:=by
 refine⟨λp hp=>?_,?_,by simp⟩
 ·rcases List.mem_cons.1 hp with rfl|hp
  ·exact hfz _ (get_mem (by omega) hz)
  ·obtain⟨a,ha,rfl⟩:=List.mem_map.1 (List.mem_reverse.1 hp)
   exact hfz a (Br ha)
 ·simp only[Qb,List.length_reverse,mI,Hg];omega
theorem Tl(S:dN)[Um S](hd:S.d+1<=346)(ib:Nat)(t:Ct.bC)(N n:Nat)(hn:n<=8000000000000000000)(hrec:∀j,j<n->Ow S ib t N j)(sd:Bool)(plc:List Ct.Place)(s:Ct.St)(h:SH B w (Di ib t (⟨sd,plc,[]⟩)::S.a s::L))(hs:Ct.Rm 60 s)(hok:Ct.xO n ⟨sd,plc,[]⟩):
  Calls prog 62 #[↑ib,S.v] w λe w'=>CP S (AT ib t) n B (Ct.Lk t (Ct.jG t N) ⟨sd,plc,[]⟩) s L e w':=by
 obtain⟨⟨ps,cq,pw,cw,zs0⟩,hq,h⟩:=SH.ito h
 dsimp only at hq
 have h:SH B w (bl ib ([↑t.root,↑t.readOnly,↑sd,.slice ps zs0.length cq,.slice pw 0 cw]) 72::aU 199 15 (.slice ps zs0.length cq) zs0.length (zs0.flatMap gI)::bE (zs0.map Prod.fst)::Vh 146 2 (.slice pw 0 cw) 0 []::S.a s::L):=h
 have hfz0:∀z∈zs0,z.1.1.Fit 100000000001:=λz hm=>hok.fit (HZ z) (by dsimp only;rw[<- hq];exact List.mem_reverse.2 (List.mem_map.2 ⟨z,hm,rfl⟩))
 have hdp0:zs0.length+n<=1000000000:=by have:=hok.deep;dsimp only at this;rw[<- hq]at this;simpa using this
 show Calls _ _ _ _ λe w'=>CP S (AT ib t) n B (Ct.Gl t sd (Ct.jG t N) plc) s L e w'
 rw[<- hq]
 refine Ea (args:=[_,_]) func62 rfl ntmps62 rfl ?_
 refine sq<|rg<|sf (al h nN)<|?_
 rintro _ w ⟨b1,rfl,h⟩
 refine xe<|nx<|bk<|?_
 refine lp (α:=List ((Ct.Node×Lq)×Int)) (λρ=>(.c 0 ↑ib (.c 1 (S.v) (.c 4 ↑b1 .n)))) (λρ w=>SH B w (bl ib ([↑t.root,↑t.readOnly,↑sd,.slice ps ρ.length cq,.slice pw 0 cw]) 72::aU 199 15 (.slice ps ρ.length cq) ρ.length (ρ.flatMap gI)::bE (ρ.map Prod.fst)::bl b1 ([.int .i64 0,.int .i64 0,.int .i64 0,.int .i64 0,.nilFunc,.nilFunc,.int .i64 0,↑false,.int .u64 0,.string .empty,.int .i64 0,.int .i64 0,.int .i64 0,↑false]) 91::Vh 146 2 (.slice pw 0 cw) 0 []::S.a s::L)/\((Ct.Gl t sd (Ct.jG t N) (zs0.map HZ).reverse).head s=(Ct.Gl t sd (Ct.jG t N) (ρ.map HZ).reverse).head s)/\(∀z∈ρ,z.1.1.Fit 100000000001)/\(ρ.length+n<=1000000000)) (λρ=>ρ.length) zs0 ⟨rfl,rfl,rfl,trivial⟩ ⟨(h.fr (.c r1 (.c r1 (.c r1 (.c r0 (.c r0 (.c r0 .n))))))),rfl,hfz0,hdp0⟩ ?_
 rintro zs w ⟨h,hT,hfz,hdp⟩
 refine bk<|sq<|sq<|rg<|st (mv rfl)<|st (nc rfl rfl)<|st (fa vL rfl)<|st (ld nL rfl (h.c a0 rfl))<|st (ln oW rfl rfl)<|st (bi rfl rfl rfl)<|xe<|nx<|cF rfl<|sk<|nx<|sq<|sq<|rg<|st (mv rfl)<|st (nc rfl rfl)<|st (fa pK rfl)<|st (ld Ac rfl (h.c a0 rfl))<|st (ln Gc rfl rfl)<|st (bi rfl rfl rfl)<|xe<|nx<|?_
 rcases mD (((zs.length:Int):Int)==0)with hd2|hd2
 have hz0:zs=[]:=List.length_eq_zero_iff.1 (by have:=eq_of_beq hd2;omega)
 have hg3:=eq_of_beq hd2
 refine ct rfl hd2<|sq<|rg<|st (bd [.int .i64 0,↑false,.int .u64 0,.string .empty,.int .i64 0,.int .i64 0,.int .i64 0,↑false] Oo rfl (by kernel_rfl))<|cl (ca eF rfl) ((gV ({}:Ct.Result) (h.fr .n)).mono ?_)
 rintro _ w ⟨rfl,h⟩
 refine⟨_,rfl,?_⟩
 refine sf (so h rfl rfl rfl iR (eO _) (.r (.r (.r (.r (.r (.r (.r (.r (.r (.r (.r (.r (.r (.r .d)))))))))))))) u3)<|?_
 rintro _ w h
 refine xe<|nx<|rt<|tr<|bt<|tr<|bt<|?_
 refine rr (bP results62 rfl (h.b a3) iO)<|?_
 have h:=SH.d6 (it:=⟨sd,[],[]⟩) ⟨ps,cq,pw,cw,zs⟩ (by rw[hz0];rfl) (h.fr (.c r0 (.c r0 (.c r0 (.c r1 .n)))))
 have h:=kG (S:=S) (n:=n) (ρ:=Prod.fst) (M:=λz=>Di ib t z.2) (({}:Ct.Result),⟨sd,[],[]⟩) h
 exact fI (hT.trans (by rw[hz0];rfl)) (h.fr (.c r1 .n)).drop
 obtain⟨j,hj⟩:∃j,zs.length=j+1:=⟨zs.length-1,by have:=Pe hd2;omega⟩
 obtain⟨⟨⟨nd,⟨pb,cb,pp,cp⟩⟩,k⟩,hz⟩:∃z,zs.getD j ((({}:Ct.Node),({}:Lq)),(0:Int))=z:=⟨_,rfl⟩
 have hfn:nd.Fit 100000000001:=hfz _ (get_mem (by omega) hz)
 have hb64:=aC8 hfn
 rw[rev_last hj hz]at hT
 have hg4:=Pe hd2
 refine cf rfl hd2<|sk<|nx<|sq<|rg<|st (mv rfl)<|cl (ca eF rfl) ((LH S ib t sd zs [] j ps pw cq cw nd pb cb pp cp k s (h.fr (.c r0 (.c r0 (.c r0 (.c r2 .n))))) hj (by omega) hz hb64).mono ?_)
 rintro _ w ⟨rfl,h⟩
 refine⟨_,rfl,?_⟩
 refine st (mv rfl)<|st (xr rfl rfl)<|st (xr rfl rfl)<|st (sg rfl)<|st (sg rfl)<|xe<|nx<|sq<|sq<|rg<|st (mv rfl)<|st (nt rfl)<|xe<|nx<|?_
 rcases mD (!(!(⟨nd,k⟩:Ct.Place).out))with hd5|hd5
 have ho:(⟨nd,k⟩:Ct.Place).out=true:=by simpa using hd5
 rw[show P1 zs j nd (⟨pb,cb,pp,cp⟩:Lq) k=zs from by unfold P1;rw[ho];rfl]at h
 have hd6:(!(⟨nd,k⟩:Ct.Place).out)=false:=(lC _).mp hd5
 refine ct rfl hd5<|sq<|Uc (F:=[bl ib ([↑t.root,↑t.readOnly,↑sd,.slice ps zs.length cq,.slice pw 0 cw]) 72]) [(true,[1,3,5,7,9,11,13,15,17,19,21,23,25,27]),(false,[28])] (by kernel_rfl) h (λw h=>(hC (h.at_ a0) hN)) λw h=>VP<|tk (λW H=>mv rfl)<|tk (λW H=>mv rfl)<|tk (λW H=>nc rfl rfl)<|tk (λW H=>fa pK rfl)<|tk (λW H=>ld Ac rfl (H.c a0 rfl))<|tk (λW H=>mv rfl)<|tk (λW H=>nc rfl rfl)<|tk (λW H=>fa pK rfl)<|tk (λW H=>ld Ac rfl (H.c a0 rfl))<|tk (λW H=>ln Gc rfl rfl)<|tk (λW H=>bw rfl rfl (zW (c:=(j:Int)) (by omega) (by omega) (by omega)))<|tk (λW H=>B4 (k:=j) Gc JJ rfl rfl (by have:=aCm h a1;omega))<|tk (λW H=>nc rfl rfl)<|tk (λW H=>fa pK rfl)<|Zp<|ff (so h rfl rfl rfl aAg rfl (.s (.s (.s (.r .d)))) u0)<|?_
 rintro _ w h
 refine⟨trivial,?_⟩
 refine xz<|nx<|xt<|tx<|be<|nx<|?_
 have h:=SH.aCt (k:=j) (h.fr (.c r1 .n)) (by omega)
 rw[Kk iS]at h
 have h:=SH.aB3 (ys:=(zs.take j).map Prod.fst) (h.fr (.c r2 .n)) S1
 have hlt:(zs.take j).length=j:=by rw[Hg];omega
 have h:SH B w (bE ((zs.take j).map Prod.fst)::aU 199 15 (.slice ps (zs.take j).length cq) (zs.take j).length ((zs.take j).flatMap gI)::bl ib ([↑t.root,↑t.readOnly,↑sd,.slice ps (zs.take j).length cq,.slice pw 0 cw]) 72::S.a s::bl b1 ([.int .i64 0,.int .i64 0,.int .i64 0,.int .i64 0,.nilFunc,.nilFunc,.int .i64 0,↑false,.int .u64 0,.string .empty,.int .i64 0,.int .i64 0,.int .i64 0,↑false]) 91::Vh 146 2 (.slice pw 0 cw) 0 []::L):=by rw[hlt];exact h
 exact⟨(zs.take j),⟨rfl,rfl,rfl,trivial⟩,⟨(h.fr (.c r2 (.c r1 (.c r0 (.c r1 (.c r1 (.c r0 .n))))))),hT.trans (qT ho rfl),λz hm=>hfz z (Br hm),by(try dsimp only);omega⟩,by rw[hlt];omega⟩
 have ho:(⟨nd,k⟩:Ct.Place).out=false:=by simpa using hd5
 have eb:Y' nd k=(⟨nd,k⟩:Ct.Place).branch:=by unfold Y';rw[ho];rfl
 rw[show P1 zs j nd (⟨pb,cb,pp,cp⟩:Lq) k=zs.set j ((nd,(⟨pb,cb,pp,cp⟩:Lq)),(⟨nd,k⟩:Ct.Place).idx+1)from by unfold P1;rw[ho];rfl]at h
 rw[eb]
 have hd7:(!(⟨nd,k⟩:Ct.Place).out)=true:=(AD _).mp hd5
 refine cf rfl hd5<|sk<|nx<|sq<|rg<|st (mv rfl)<|st (mv rfl)<|cl (ci (S.sN h a3) rfl rfl) ((cK S s (⟨nd,k⟩:Ct.Place).branch (h.fr (.c r3 .n)) hs).mono ?_)
 rintro _ w ⟨q8,rfl,h⟩
 refine⟨_,rfl,?_⟩
 refine sf (al h Ji)<|?_
 rintro _ w ⟨b9,rfl,h⟩
 refine sf (so h rfl rfl rfl uT rfl (.r (.r (.r (.r (.r (.r (.r (.r (.r (.r (.r (.r (.r (.r .d)))))))))))))) u0)<|?_
 rintro _ w h
 refine xe<|nx<|sq<|sq<|rg<|st (fa nO rfl)<|st (ld jE rfl (h.c a0 rfl))<|st (bi rfl rfl rfl)<|xe<|nx<|?_
 rcases mD (((s.node (⟨nd,k⟩:Ct.Place).branch).kind:Int)==4)with hd10|hd10
 have hg11:=eq_of_beq hd10
 refine ct rfl hd10<|sq<|rg<|st (fa tS rfl)<|st (ld uK rfl (h.c a0 rfl))<|st (fa Le rfl)<|st (ld Qf rfl (h.c a0 rfl))<|st (bd [.string (s.node (⟨nd,k⟩:Ct.Place).branch).key,.int .u64 (((s.node (⟨nd,k⟩:Ct.Place).branch).value:Nat):Int)] Qm rfl (by kernel_rfl))<|cl (ca eF rfl) ((CZ (⟨(s.node (⟨nd,k⟩:Ct.Place).branch).key,(s.node (⟨nd,k⟩:Ct.Place).branch).value⟩:Ct.bN) (h.fr .n)).mono ?_)
 rintro _ w ⟨rfl,h⟩
 refine⟨_,rfl,?_⟩
 refine sf (so h rfl rfl rfl iR (eO _) (.r (.r (.r (.r (.r (.r (.r (.r (.r (.r (.r (.r (.r (.r .d)))))))))))))) u6)<|?_
 rintro _ w h
 refine xe<|nx<|rt<|tr<|bt<|tr<|bt<|?_
 refine rr (bP results62 rfl (h.b a6) iO)<|?_
 have hls:(zs.set j ((nd,(⟨pb,cb,pp,cp⟩:Lq)),(⟨nd,k⟩:Ct.Place).idx+1)).length=zs.length:=Fh ..
 have h:=SH.aB3 (ys:=(zs.set j ((nd,(⟨pb,cb,pp,cp⟩:Lq)),(⟨nd,k⟩:Ct.Place).idx+1)).map Prod.fst) (h.fr (.c r5 .n)) (YT hj hz)
 rw[<- hls]at h
 have h:=SH.d6 (it:=⟨sd,(⟨nd,k⟩:Ct.Place).step::((zs.take j).map HZ).reverse,[]⟩) ⟨ps,cq,pw,cw,zs.set j ((nd,(⟨pb,cb,pp,cp⟩:Lq)),(⟨nd,k⟩:Ct.Place).idx+1)⟩ (ZL hj) (h.fr (.c r4 (.c r4 (.c r0 (.c r4 .n)))))
 have h:=kG (S:=S) (n:=n) (ρ:=Prod.fst) (M:=λz=>Di ib t z.2) ((Ct.Jo (⟨(s.node (⟨nd,k⟩:Ct.Place).branch).key,(s.node (⟨nd,k⟩:Ct.Place).branch).value⟩:Ct.bN)),⟨sd,(⟨nd,k⟩:Ct.Place).step::((zs.take j).map HZ).reverse,[]⟩) h
 exact fI (hT.trans (qF ho (qN (qT hd10 rfl)))) (h.fr (.c r1 (.c r1 (.c r2 .n)))).drop.drop.drop
 have hg12:=Pe hd10
 refine cf rfl hd10<|sk<|nx<|sq<|rg<|st (mv rfl)<|st (mv rfl)<|st (mv rfl)<|?_
 have hls:(zs.set j ((nd,(⟨pb,cb,pp,cp⟩:Lq)),(⟨nd,k⟩:Ct.Place).idx+1)).length=zs.length:=Fh ..
 have h:=SH.aB3 (ys:=(zs.set j ((nd,(⟨pb,cb,pp,cp⟩:Lq)),(⟨nd,k⟩:Ct.Place).idx+1)).map Prod.fst) (h.fr (.c r5 .n)) (YT hj hz)
 rw[<- hls]at h
 have h:=SH.d6 (it:=⟨sd,(⟨nd,k⟩:Ct.Place).step::((zs.take j).map HZ).reverse,[]⟩) ⟨ps,cq,pw,cw,zs.set j ((nd,(⟨pb,cb,pp,cp⟩:Lq)),(⟨nd,k⟩:Ct.Place).idx+1)⟩ (ZL hj) (h.fr (.c r4 (.c r4 (.c r0 (.c r4 .n)))))
 refine cl (ca eF rfl) ((Ug S hd ib t N n hn hrec sd ((⟨nd,k⟩:Ct.Place).step::((zs.take j).map HZ).reverse) ((⟨nd,k⟩:Ct.Place).branch) s (h.fr (.c r0 (.c r2 .n))) hs (okT hfz hj hz hdp)).mono ?_)
 rintro _ w ⟨s13,t14,c15,hq16,rfl,h⟩
 refine⟨_,rfl,?_⟩
 refine sf (so h rfl rfl rfl iR (eO _) (.r (.r (.r (.r (.r (.r (.r (.r (.r (.r (.r (.r (.r (.r .d)))))))))))))) u4)<|?_
 rintro _ w h
 refine xe<|nx<|rt<|bt<|tr<|bt<|?_
 refine rr (bP results62 rfl (h.b a4) iO)<|?_
 exact fI (hT.trans (qF ho (qN (qF hd10 (hq16))))) (h.fr (.c r2 (.c r2 (.c r2 .n)))).drop.drop.drop
theorem Jk(S:dN)[Um S](hd:S.d+1<=346)(ib:Nat)(t:Ct.bC):∀(N n:Nat),n<=N->n<=8000000000000000000->Ow S ib t (N+1) n
 |0,n,hn,hb=>λit B w L s h hs hok=>by
  obtain⟨sd,plc,wt⟩:=it
  cases wt with
  |nil=>exact Tl S hd ib t 0 n hb (λj hj=>by omega) sd plc s h hs hok
  |cons p wt=>exact yA S ib t 0 n sd plc p wt s h (by have:=hok.wait;simp only[Qb]at this;omega)
 |N+1,n,hn,hb=>λit B w L s h hs hok=>by
  obtain⟨sd,plc,wt⟩:=it
  cases wt with
  |nil=>exact Tl S hd ib t (N+1) n hb (λj hj=>Jk S hd ib t N j (by omega) (by omega)) sd plc s h hs hok
  |cons p wt=>exact yA S ib t (N+1) n sd plc p wt s h (by have:=hok.wait;simp only[Qb]at this;omega)
theorem P'(S:dN)[Um S](hd:S.d+1<=346)(ib:Nat)(t:Ct.bC)(N n:Nat)(hn:n<=N)(hb:n<=8000000000000000000)(plc:List Ct.Place)(wt:List Ct.bN)(s:Ct.St)(h:SH B w (Di ib t (⟨true,plc,wt⟩)::S.a s::L))(hs:Ct.Rm 60 s)(hok:Ct.xO n ⟨true,plc,wt⟩):
  Calls prog 32 #[↑ib,S.v] w λe w'=>CP S (AT ib t) n B (Ct.jG t (N+1) ⟨true,plc,wt⟩) s L e w':=by
 obtain⟨⟨ps,cq,pw,cw,zs⟩,hq,h⟩:=SH.ito h
 dsimp only at hq
 have h:SH B w (bl ib ([↑t.root,↑t.readOnly,↑true,.slice ps zs.length cq,.slice pw wt.length cw]) 72::aU 199 15 (.slice ps zs.length cq) zs.length (zs.flatMap gI)::bE (zs.map Prod.fst)::Vh 146 2 (.slice pw wt.length cw) wt.length (wt.flatMap aR)::S.a s::L):=h
 refine Ea (args:=[_,_]) func32 rfl ntmps32 rfl ?_
 refine sq<|rg<|sf (bx h rfl rfl)<|?_
 rintro _ w ⟨b1,rfl,h⟩
 refine sf (bx h rfl rfl)<|?_
 rintro _ w ⟨b2,rfl,h⟩
 refine sf (al h nN)<|?_
 rintro _ w ⟨b3,rfl,h⟩
 refine xe<|nx<|sq<|sq<|rg<|st (ld sM rfl (h.c a2 rfl))<|st (nc rfl rfl)<|st (fa HO rfl)<|st (ld xN rfl (h.c a3 rfl))<|xe<|nx<|cT rfl<|sq<|rg<|st (ld sM rfl (h.c a2 rfl))<|st (ld qH rfl (h.c a1 rfl))<|?_
 have h:=SH.d6 (it:=⟨true,plc,wt⟩) ⟨ps,cq,pw,cw,zs⟩ hq (h.fr (.c r3 (.c r3 (.c r3 (.c r3 .n)))))
 refine cl (ca eF rfl) ((Jk S hd ib t N n hn hb ⟨true,plc,wt⟩ _ _ _ s (h.fr (.c r0 (.c r3 .n))) hs hok).mono ?_)
 rintro _ w ⟨s4,t5,c6,hq7,rfl,h⟩
 refine⟨_,rfl,?_⟩
 refine sf (so h rfl rfl rfl iR (eO _) (.r (.r (.r (.r (.r (.r (.r (.r (.r (.r (.r (.r (.r (.r .d)))))))))))))) u2)<|?_
 rintro _ w h
 refine xe<|nx<|rt<|tr<|?_
 refine rr (bP results32 rfl (h.b a2) iO)<|?_
 exact fI (hq7) (h.fr (.c r2 (.c r2 (.c r2 .n)))).drop.drop.drop
theorem IU(S:dN)[Um S](hd:S.d+1<=346)(ib:Nat)(t:Ct.bC)(N m:Nat)(hn:m<=N)(hb:m<=8000000000000000000)(cb0 cb1:Nat)(plc:List Ct.Place)(x:Int)(s:Ct.St)(h:SH B w (rb cb0 ([↑ib]) 37::rb cb1 [S.v] 86::Di ib t (⟨true,plc,[]⟩)::S.a s::L))(hs:Ct.Rm 60 s)(hok:Ct.xO m ⟨true,plc,[]⟩):
  Calls prog 64 #[↑x,↑cb0,↑cb1] w λe w'=>CP S (AT ib t) m B (Ct.xI t (N+1) ⟨true,plc,[]⟩ x) s L e w':=by
 refine Ea (args:=[_,_,_]) func64 rfl ntmps64 rfl ?_
 refine sq<|rg<|sf (al h nN)<|?_
 rintro _ w ⟨b1,rfl,h⟩
 refine xe<|nx<|sq<|rg<|st (ld sM rfl (h.B8 a1 rfl))<|st (ld qH rfl (h.B8 a2 rfl))<|st (mv rfl)<|cl (ca eF rfl) ((Ug S hd ib t (N+1) m hb (λj hj=>Jk S hd ib t N j (by omega) (by omega)) true plc x s (h.fr (.c r3 (.c r3 .n))) hs hok).mono ?_)
 rintro _ w ⟨s2,t3,c4,hq5,rfl,h⟩
 refine⟨_,rfl,?_⟩
 refine sf (so h rfl rfl rfl iR (eO _) (.r (.r (.r (.r (.r (.r (.r (.r (.r (.r (.r (.r (.r (.r .d)))))))))))))) u2)<|?_
 rintro _ w h
 refine xe<|nx<|rt<|?_
 refine rr (bP results64 rfl (h.b a2) iO)<|?_
 exact fI (hq5) (h.fr (.c r2 (.c r2 (.c r2 .n)))).drop.drop.drop
theorem aA6(S:dN)[Um S](hd:S.d+1<=346)(ib:Nat)(t:Ct.bC)(N n:Nat)(hn:n<=N)(hb:n<=8000000000000000000)(plc:List Ct.Place)(s:Ct.St)(h:SH B w (Di ib t (⟨false,plc,[]⟩)::S.a s::L))(hs:Ct.Rm 60 s)(hok:Ct.xO n ⟨true,plc,[]⟩):
  Calls prog 32 #[↑ib,S.v] w λe w'=>CP S (AT ib t) n B (.load t.root λx=>Ct.xI t (N+1) ⟨true,plc,[]⟩ x) s L e w':=by
 obtain⟨⟨ps,cq,pw,cw,zs⟩,hq,h⟩:=SH.ito h
 dsimp only at hq
 have h:SH B w (bl ib ([↑t.root,↑t.readOnly,↑false,.slice ps zs.length cq,.slice pw 0 cw]) 72::aU 199 15 (.slice ps zs.length cq) zs.length (zs.flatMap gI)::bE (zs.map Prod.fst)::Vh 146 2 (.slice pw 0 cw) 0 []::S.a s::L):=h
 refine Ea (args:=[_,_]) func32 rfl ntmps32 rfl ?_
 refine sq<|rg<|sf (bx h rfl rfl)<|?_
 rintro _ w ⟨b1,rfl,h⟩
 refine sf (bx h rfl rfl)<|?_
 rintro _ w ⟨b2,rfl,h⟩
 refine sf (al h nN)<|?_
 rintro _ w ⟨b3,rfl,h⟩
 refine xe<|nx<|sq<|sq<|rg<|st (ld sM rfl (h.c a2 rfl))<|st (nc rfl rfl)<|st (fa HO rfl)<|st (ld xN rfl (h.c a3 rfl))<|xe<|nx<|cF rfl<|sk<|nx<|sq<|rg<|st (ld sM rfl (h.c a2 rfl))<|st (nc rfl rfl)<|st (fa HO rfl)<|sf (so h rfl rfl rfl AU rfl (.s (.s (.r .d))) u3)<|?_
 rintro _ w h
 refine xe<|nx<|sq<|?_
 have h:=SH.kX (h.fr (.c r2 .n))
 have h:=SH.kX (h.fr (.c r2 .n))
 refine rg<|st (ld sM rfl (h.B8 a1 rfl))<|st (nc rfl rfl)<|st (fa Vb rfl)<|st (fa HN rfl)<|st (ld vA rfl (h.c a3 rfl))<|st (mf rfl rfl)<|cl (ca eF rfl) ((jH t.root (.fn 64 [] [↑b1,↑b2]) (h.fr .n)).mono ?_)
 rintro _ w ⟨rfl,h⟩
 refine⟨_,rfl,?_⟩
 refine sf (so h rfl rfl rfl iR (eO _) (.r (.r (.r (.r (.r (.r (.r (.r (.r (.r (.r (.r (.r (.r .d)))))))))))))) u2)<|?_
 rintro _ w h
 refine xe<|nx<|rt<|?_
 refine rr (bP results32 rfl (h.b a2) iO)<|?_
 have h:=SH.d6 (it:=⟨true,plc,[]⟩) ⟨ps,cq,pw,cw,zs⟩ hq (h.fr (.c r3 (.c r3 (.c r3 (.c r3 .n)))))
 have h:=h.fr (.c r2 (.c r1 (.c r0 .n)))
 have h:=Nt (S:=S) (F:=AT ib t) (n:=n) (args:=dQ) (k:=λx=>Ct.xI t (N+1) ⟨true,plc,[]⟩ x) (v:=(.fn 64 [] [↑b1,↑b2])) [rb b1 ([↑ib]) 37,rb b2 [S.v] 86,Di ib t (⟨true,plc,[]⟩)] h λm' hm' B' w' L' s' x' h' hs'=>pR eF (IU S hd ib t N m' (by omega) (by omega) b1 b2 plc x' s' h' (hs'.less (by decide)) (hok.less (Nat.le_of_lt hm')))
 have h:=kL (a:=t.root) h
 exact fI (rfl) (h.fr (.c r1 .n)).drop
theorem i7(S:dN)[Um S](hd:S.d+1<=346)(ib:Nat)(t:Ct.bC)(N n:Nat)(hn:n<=N)(hb:n<=8000000000000000000)(it:Ct.hB)(s:Ct.St)(h:SH B w (Di ib t it::S.a s::L))(hs:Ct.Rm 60 s)(hok:Ct.qV n it):
  Calls prog 32 #[↑ib,S.v] w λe w'=>CP S (AT ib t) n B (bif it.started then Ct.jG t (N+1) it else .load t.root λr=>Ct.xI t (N+1) ⟨true,it.stack,it.wait⟩ r) s L e w':=by
 obtain⟨sd,plc,wt⟩:=it
 cases sd with
 |true=>exact P' S hd ib t N n hn hb plc wt s h hs hok.ok
 |false=>
  obtain rfl:wt=[]:=hok.new rfl
  exact aA6 S hd ib t N n hn hb plc s h hs ⟨hok.ok.fit,hok.ok.deep,hok.ok.wait⟩
theorem NX(S:dN)[Um S](hd:S.d+1<=346)(ib:Nat)(t:Ct.bC)(N m:Nat)(hn:m<=N)(hb:m<=8000000000000000000)(cb0 cb1:Nat)(it:Ct.hB)(s:Ct.St)(h:SH B w (rb cb0 ([↑ib]) 37::rb cb1 [S.v] 86::Di ib t it::S.a s::L))(hs:Ct.Rm 60 s)(hok:Ct.qV m it):
  Calls prog 31 #[↑cb0,↑cb1] w λe w'=>CP S (AT ib t) m B (bif it.started then Ct.jG t (N+1) it else .load t.root λr=>Ct.xI t (N+1) ⟨true,it.stack,it.wait⟩ r) s L e w':=by
 refine Ea (args:=[_,_]) func31 rfl ntmps31 rfl ?_
 refine sq<|rg<|sf (al h nN)<|?_
 rintro _ w ⟨b1,rfl,h⟩
 refine xe<|nx<|sq<|rg<|st (ld sM rfl (h.B8 a1 rfl))<|st (ld qH rfl (h.B8 a2 rfl))<|cl (ca eF rfl) ((i7 S hd ib t N m hn hb it s (h.fr (.c r3 (.c r3 .n))) hs hok).mono ?_)
 rintro _ w ⟨s2,t3,c4,hq5,rfl,h⟩
 refine⟨_,rfl,?_⟩
 refine sf (so h rfl rfl rfl iR (eO _) (.r (.r (.r (.r (.r (.r (.r (.r (.r (.r (.r (.r (.r (.r .d)))))))))))))) u2)<|?_
 rintro _ w h
 refine xe<|nx<|rt<|?_
 refine rr (bP results31 rfl (h.b a2) iO)<|?_
 exact fI (hq5) (h.fr (.c r2 (.c r2 (.c r2 .n)))).drop.drop.drop
theorem LF(S:dN)(ib:Nat)(t:Ct.bC)(m:Nat)(it:Ct.hB)(s:Ct.St)(h:SH B w (Di ib t it::S.a s::L)):
  Calls prog 29 #[] w λe w'=>CP S (AT ib t) m B (.ret ({err:=7},it)) s L e w':=by
 refine Ea (args:=[]) func29 rfl ntmps29 rfl ?_
 refine sq<|rg<|sf (al h nN)<|?_
 rintro _ w ⟨b1,rfl,h⟩
 refine xe<|nx<|sq<|rg<|st (bd [.int .i64 7,↑false,.int .u64 0,.string .empty,.int .i64 0,.int .i64 0,.int .i64 0,↑false] Oo rfl (by kernel_rfl))<|cl (ca eF rfl) ((gV ({err:=7}:Ct.Result) (h.fr .n)).mono ?_)
 rintro _ w ⟨rfl,h⟩
 refine⟨_,rfl,?_⟩
 refine sf (so h rfl rfl rfl iR (eO _) (.r (.r (.r (.r (.r (.r (.r (.r (.r (.r (.r (.r (.r (.r .d)))))))))))))) u0)<|?_
 rintro _ w h
 refine xe<|nx<|rt<|?_
 refine rr (bP results29 rfl (h.b a0) iO)<|?_
 have h:=kG (S:=S) (n:=m) (ρ:=Prod.fst) (M:=λz=>Di ib t z.2) (({err:=7}:Ct.Result),it) (h.fr (.c r1 .n))
 exact fI (rfl) (h.fr (.c r1 .n)).drop
theorem N3(S:dN)[Um S](hd:S.d+1<=346)(ib:Nat)(t:Ct.bC)(N n:Nat)(hn:n<=N)(hb:n<=8000000000000000000)(sd:Bool)(plc:List Ct.Place)(wt:List Ct.bN)(s:Ct.St)(h:SH B w (Di ib t (⟨sd,plc,wt⟩)::S.a s::L))(hs:Ct.Rm 60 s)(hok:Ct.qV n ⟨sd,plc,wt⟩)(hro:t.readOnly=true):
  Calls prog 10 #[↑ib,S.v] w λe w'=>∃tb s' u,(Ct.Ax t (N+1) ⟨sd,plc,wt⟩).head s=(s',u)/\e=.returned (.pointer (some ⟨tb,0,none⟩))/\SH B w' (fD S (AT ib t) n tb u 0::S.a s'::L):=by
 obtain⟨⟨ps,cq,pw,cw,zs⟩,hq,h⟩:=SH.ito h
 dsimp only at hq
 have h:SH B w (bl ib ([↑t.root,↑t.readOnly,↑sd,.slice ps zs.length cq,.slice pw wt.length cw]) 72::aU 199 15 (.slice ps zs.length cq) zs.length (zs.flatMap gI)::bE (zs.map Prod.fst)::Vh 146 2 (.slice pw wt.length cw) wt.length (wt.flatMap aR)::S.a s::L):=h
 refine Ea (args:=[_,_]) func10 rfl ntmps10 rfl ?_
 refine sq<|rg<|sf (bx h rfl rfl)<|?_
 rintro _ w ⟨b1,rfl,h⟩
 refine sf (bx h rfl rfl)<|?_
 rintro _ w ⟨b2,rfl,h⟩
 refine st (sg rfl)<|xe<|nx<|sq<|sq<|rg<|st (ld sM rfl (h.c a1 rfl))<|st (nc rfl rfl)<|st (fa Vb rfl)<|st (fa xW rfl)<|st (ld xN rfl (h.c a2 rfl))<|st (nt rfl)<|xe<|nx<|cf rfl (sZ hro)<|sk<|nx<|sq<|?_
 have h:=SH.kX (h.fr (.c r1 .n))
 have h:=SH.kX (h.fr (.c r1 .n))
 refine rg<|st (ld qH rfl (h.B8 a0 rfl))<|st (mf rfl rfl)<|?_
 have h:=SH.d6 (it:=⟨sd,plc,wt⟩) ⟨ps,cq,pw,cw,zs⟩ hq (h.fr (.c r2 (.c r2 (.c r2 (.c r2 .n)))))
 have h:=h.fr (.c r2 (.c r1 (.c r0 .n)))
 have h:=YZ (S:=S) (F:=AT ib t) (n:=n) (j:=60) (args:=qI) (k:=λ_:Unit=>bif sd then Ct.jG t (N+1) ⟨sd,plc,wt⟩else .load t.root λr=>Ct.xI t (N+1) ⟨true,plc,wt⟩ r) (v:=(.fn 31 [] [↑b1,↑b2])) [rb b1 ([↑ib]) 37,rb b2 [S.v] 86,Di ib t (⟨sd,plc,wt⟩)] h λB' w' L' s' x' h' hs'=>pR eF (NX S hd ib t N n hn hb b1 b2 ⟨sd,plc,wt⟩ s' h' hs' hok)
 refine cl (ca eF rfl) ((Vz S (AT ib t) n (.fn 31 [] [↑b1,↑b2]) (λ_:Unit=>bif sd then Ct.jG t (N+1) ⟨sd,plc,wt⟩else .load t.root λr=>Ct.xI t (N+1) ⟨true,plc,wt⟩ r) s (h.fr (.c r0 (.c r0 .n))) hs).mono ?_)
 rintro _ w ⟨tb3,s4,uz5,hq6,rfl,h⟩
 refine⟨_,rfl,?_⟩
 refine st (sg rfl)<|xe<|nx<|rt<|?_
 refine rr (jP results10 rfl)<|⟨tb3,s4,uz5,by unfold Ct.Ax;rw[hro];exact hq6,rfl,h⟩
theorem SF(S:dN)[Um S](hd:S.d+1<=346)(ib:Nat)(t:Ct.bC)(N n:Nat)(hn:n<=N)(hb:n<=8000000000000000000)(sd:Bool)(plc:List Ct.Place)(wt:List Ct.bN)(s:Ct.St)(h:SH B w (Di ib t (⟨sd,plc,wt⟩)::S.a s::L))(hs:Ct.Rm 60 s)(hok:Ct.qV n ⟨sd,plc,wt⟩)(hro:t.readOnly=false):
  Calls prog 10 #[↑ib,S.v] w λe w'=>∃tb s' u,(Ct.Ax t (N+1) ⟨sd,plc,wt⟩).head s=(s',u)/\e=.returned (.pointer (some ⟨tb,0,none⟩))/\SH B w' (fD S (AT ib t) n tb u 0::S.a s'::L):=by
 obtain⟨⟨ps,cq,pw,cw,zs⟩,hq,h⟩:=SH.ito h
 dsimp only at hq
 have h:SH B w (bl ib ([↑t.root,↑t.readOnly,↑sd,.slice ps zs.length cq,.slice pw wt.length cw]) 72::aU 199 15 (.slice ps zs.length cq) zs.length (zs.flatMap gI)::bE (zs.map Prod.fst)::Vh 146 2 (.slice pw wt.length cw) wt.length (wt.flatMap aR)::S.a s::L):=h
 refine Ea (args:=[_,_]) func10 rfl ntmps10 rfl ?_
 refine sq<|rg<|sf (bx h rfl rfl)<|?_
 rintro _ w ⟨b1,rfl,h⟩
 refine sf (bx h rfl rfl)<|?_
 rintro _ w ⟨b2,rfl,h⟩
 refine st (sg rfl)<|xe<|nx<|sq<|sq<|rg<|st (ld sM rfl (h.c a1 rfl))<|st (nc rfl rfl)<|st (fa Vb rfl)<|st (fa xW rfl)<|st (ld xN rfl (h.c a2 rfl))<|st (nt rfl)<|xe<|nx<|ct rfl (tJ hro)<|sq<|rg<|st (ld qH rfl (h.c a0 rfl))<|?_
 have h:=SH.d6 (it:=⟨sd,plc,wt⟩) ⟨ps,cq,pw,cw,zs⟩ hq (h.fr (.c r2 (.c r2 (.c r2 (.c r2 .n)))))
 have h:=h.fr (.c r0 .n)
 have h:=YZ (S:=S) (F:=AT ib t) (n:=n) (j:=60) (args:=qI) (k:=λ_:Unit=>(.ret ({err:=7},⟨sd,plc,wt⟩):Ct.I (Ct.Result×Ct.hB))) (v:=(.fn 29 [] [])) [Di ib t (⟨sd,plc,wt⟩)] h λB' w' L' s' x' h' hs'=>pR eF (LF S ib t n ⟨sd,plc,wt⟩ s' h')
 refine cl (ca eF rfl) ((Vz S (AT ib t) n (.fn 29 [] []) (λ_:Unit=>(.ret ({err:=7},⟨sd,plc,wt⟩):Ct.I (Ct.Result×Ct.hB))) s (h.fr (.c r0 (.c r2 .n))) hs).mono ?_)
 rintro _ w ⟨tb3,s4,uz5,hq6,rfl,h⟩
 refine⟨_,rfl,?_⟩
 refine st (sg rfl)<|xe<|nx<|rt<|tr<|?_
 refine rr (jP results10 rfl)<|⟨tb3,s4,uz5,by unfold Ct.Ax;rw[hro];exact hq6,rfl,(h.fr (.c r2 (.c r2 .n))).drop.drop⟩
theorem V2(S:dN)[Um S](hd:S.d+1<=346)(ib:Nat)(t:Ct.bC)(N n:Nat)(hn:n<=N)(hb:n<=8000000000000000000)(it:Ct.hB)(s:Ct.St)(h:SH B w (Di ib t it::S.a s::L))(hs:Ct.Rm 60 s)(hok:Ct.qV n it):
  Calls prog 10 #[↑ib,S.v] w λe w'=>∃tb s' u,(Ct.Ax t (N+1) it).head s=(s',u)/\e=.returned (.pointer (some ⟨tb,0,none⟩))/\SH B w' (fD S (AT ib t) n tb u 0::S.a s'::L):=by
 obtain⟨sd,plc,wt⟩:=it
 cases hro:t.readOnly with
 |true=>exact N3 S hd ib t N n hn hb sd plc wt s h hs hok hro
 |false=>exact SF S hd ib t N n hn hb sd plc wt s h hs hok hro
theorem aBr(h:SH B w L):SH B w (bE []::L):=h.new (Kp.refl _ _) (O:=λ_=>False) (R:=λ_=>False) ⟨λ_ h=>h,(λz hz=>by cases hz),λ_ h=>h.elim⟩ (λ_ h=>h.elim) (λ_ h=>h.elim)
theorem W6(t:Ct.bC)(h:SH B w (L)):
  Calls prog 7 #[.agg [↑t.root,↑t.readOnly].toArray] w λe w'=>∃ib,e=.returned (.pointer (some ⟨ib,0,none⟩))/\SH B w' (Di ib t {}::L):=by
 refine Ea (args:=[_]) func7 rfl ntmps7 rfl ?_
 refine sq<|rg<|sf (bx h rfl rfl)<|?_
 rintro _ w ⟨b1,rfl,h⟩
 refine st (sg rfl)<|xe<|nx<|sq<|rg<|st (gJ rfl (dK (h.b a0)) oB)<|st (bd [↑t.root,↑t.readOnly,↑false,.slice none 0 0,.slice none 0 0] aCp rfl (by kernel_rfl))<|sf (bx h rfl rfl)<|?_
 rintro _ w ⟨b2,rfl,h⟩
 refine st (sg rfl)<|xe<|nx<|rt<|?_
 refine rr (jP results7 rfl)<|?_
 have h:=SH.aCu (SH.nil 146 2 (aBr (SH.nil 199 15 h)))
 exact⟨b2,rfl,SH.d6 (it:={}) ⟨none,0,none,0,[]⟩ rfl ((h.fr (.c r4 .n)).drop.fr (.c r3 (.c r2 (.c r1 (.c r0 .n)))))⟩
end Go.Q9
end
