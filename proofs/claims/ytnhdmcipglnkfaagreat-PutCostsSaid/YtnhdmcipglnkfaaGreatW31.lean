/- Parts of a proof: Vw, C5. -/
import Derived.Test.YtnhdmcipglnkfaaGreatW30
set_option linter.unusedVariables false
set_option linter.unusedSimpArgs false
set_option maxRecDepth 100000
set_option maxHeartbeats 4000000
section
namespace Go.Q9
open Go.Proofs.Tryz
open Go.RowKit Go.E
attribute [local irreducible] gA wpS Go.E.X XS C kV lL fin Y U F Ca kU bl rb aV bS ex ce pu sK gK bK zK gG fE cZ gY mA
theorem vY{s:Ct.St}{n:Ct.Node}(hp:Ct.lB s)(hm:n∈aZ s)(hc:n.bD=true):n.cellOf=n.jN:=by
 unfold aZ at hm
 rcases List.mem_cons.1 hm with rfl|hm
 ·rw[Ct.Fj]at hc;cases hc
 ·rcases List.mem_cons.1 hm with rfl|hm
  ·rw[Ct.Fj]at hc;cases hc
  ·exact(hp.jN hm hc).symm
theorem I0{n:Ct.Node}(h:n.valid=true):0<=n.main/\0<=n.prev/\0<=n.status:=by
 have:=Ct.iW h;exact⟨this.main,this.prev,this.status⟩
theorem aA7{s:Ct.St}{n:Ct.Node}(hp:Ct.lB s)(hm:n∈aZ s)(h0:0<=n.main/\0<=n.prev/\0<=n.status)(hc:n.bD=true)(hr:s.aG.length+s.cells.length+s.gen+s.acc<=100000000000):n.main+n.prev+n.status<=1000000000000:=by
 have h1:=(hp.all n hm).lo hc
 have h2:=vY hp hm hc
 unfold Ct.Node.cellOf at h2
 omega
variable{B w:World}{L:List As}
theorem EB(n:Nat)(l:List Int)(p:Option Addr)(c:Nat)(h:SH B w (aV 44 1 (.slice p l.length c) l.length (l.map (Value.int .i64))::L))(hr:∀r∈l,0<=r/\r<=(n:Int))(hl:l.length<=1000000000000):
  Calls prog 84 #[↑(n:Int),.slice p l.length c] w λe w'=>e=.returned ↑true/\SH B w' (aV 44 1 (.slice p l.length c) l.length (l.map (Value.int .i64))::L):=by
 refine cN func84 ntmps84 h λw h=>?_
 refine lp (α:=Nat) (λρ=>(.c 0 ↑(n:Int) (.c 1 (.slice p l.length c) (.c 5 (.int .i64 (ρ:Int)) .n)))) (λρ w=>SH B w (aV 44 1 (.slice p l.length c) l.length (l.map (Value.int .i64))::L)/\(ρ<=l.length)) (λρ=>l.length-ρ) 0 ⟨rfl,rfl,rfl,trivial⟩ ⟨h,bZ _⟩ ?_
 rintro k w ⟨h,hk⟩
 refine go h λw h=>?_
 refine qc h (λdF w h=>?_) λdF w h=>?_
 have xZ:=dH dF
 refine go h λw h=>?_
 obtain⟨b3,rfl⟩:=h.fp a0 (by omega)
 refine go h λw h=>?_
 refine gT rfl rfl (cI (by have:=hr _ (fT (i:=k) (l:=l) (d:=0) (by omega));omega))<|go h λw h=>?_
 refine gT rfl rfl (cI (by have:=hr _ (fT (i:=k) (l:=l) (d:=0) (by omega));omega))<|go h λw h=>?_
 refine gT rfl rfl (cI (by have:=hr _ (fT (i:=k) (l:=l) (d:=0) (by omega));omega))<|go h λw h=>?_
 refine gT rfl rfl (cI (by have:=hr _ (fT (i:=k) (l:=l) (d:=0) (by omega));omega))<|go h λw h=>?_
 refine gT rfl rfl (cI (by have:=hr _ (fT (i:=k) (l:=l) (d:=0) (by omega));omega))<|go h λw h=>?_
 refine gT rfl rfl (cI (by have:=hr _ (fT (i:=k) (l:=l) (d:=0) (by omega));omega))<|go h λw h=>?_
 refine st (pF rfl (cI (by have:=hr _ (fT (i:=k) (l:=l) (d:=0) (by omega));omega)) rfl)<|go h λw h=>?_
 refine cf rfl (cI (by have:=hr _ (fT (i:=k) (l:=l) (d:=0) (by omega));omega))<|go h λw h=>?_
 exact⟨(k+1),⟨rfl,rfl,rfl,trivial⟩,⟨h,by(try dsimp only);omega⟩,by(try dsimp only);omega⟩
 exact rz ⟨rfl,h⟩
theorem J2(n:Nat)(l:List Int)(p:Option Addr)(c:Nat)(h:SH B w (bS 1 (.slice p l.length c) l.length (l.map (Value.int .i64))::L))(hr:∀r∈l,0<=r/\r<=(n:Int))(hl:l.length<=1000000000000):
  Calls prog 84 #[↑(n:Int),.slice p l.length c] w λe w'=>e=.returned ↑true/\SH B w' (bS 1 (.slice p l.length c) l.length (l.map (Value.int .i64))::L):=by
 refine cN func84 ntmps84 h λw h=>?_
 refine lp (α:=Nat) (λρ=>(.c 0 ↑(n:Int) (.c 1 (.slice p l.length c) (.c 5 (.int .i64 (ρ:Int)) .n)))) (λρ w=>SH B w (bS 1 (.slice p l.length c) l.length (l.map (Value.int .i64))::L)/\(ρ<=l.length)) (λρ=>l.length-ρ) 0 ⟨rfl,rfl,rfl,trivial⟩ ⟨h,bZ _⟩ ?_
 rintro k w ⟨h,hk⟩
 refine go h λw h=>?_
 refine qc h (λdF w h=>?_) λdF w h=>?_
 have xZ:=dH dF
 refine go h λw h=>?_
 obtain⟨b3,o4,rfl⟩:=h.fq a0 (by omega)
 refine go h λw h=>?_
 refine gT rfl rfl (cI (by have:=hr _ (fT (i:=k) (l:=l) (d:=0) (by omega));omega))<|go h λw h=>?_
 refine gT rfl rfl (cI (by have:=hr _ (fT (i:=k) (l:=l) (d:=0) (by omega));omega))<|go h λw h=>?_
 refine gT rfl rfl (cI (by have:=hr _ (fT (i:=k) (l:=l) (d:=0) (by omega));omega))<|go h λw h=>?_
 refine gT rfl rfl (cI (by have:=hr _ (fT (i:=k) (l:=l) (d:=0) (by omega));omega))<|go h λw h=>?_
 refine gT rfl rfl (cI (by have:=hr _ (fT (i:=k) (l:=l) (d:=0) (by omega));omega))<|go h λw h=>?_
 refine gT rfl rfl (cI (by have:=hr _ (fT (i:=k) (l:=l) (d:=0) (by omega));omega))<|go h λw h=>?_
 refine st (pF rfl (cI (by have:=hr _ (fT (i:=k) (l:=l) (d:=0) (by omega));omega)) rfl)<|go h λw h=>?_
 refine cf rfl (cI (by have:=hr _ (fT (i:=k) (l:=l) (d:=0) (by omega));omega))<|go h λw h=>?_
 exact⟨(k+1),⟨rfl,rfl,rfl,trivial⟩,⟨h,by(try dsimp only);omega⟩,by(try dsimp only);omega⟩
 exact rz ⟨rfl,h⟩
theorem o0(n:Nat)(a b c:Int)(p:Option Addr)(h:SH B w (aV 44 1 (.slice p 3 3) 3 [↑a,↑b,↑c]::L))(ha:0<=a/\a<=(n:Int))(hb:0<=b/\b<=(n:Int))(hc:0<=c/\c<=(n:Int)):
  Calls prog 84 #[↑(n:Int),.slice p 3 3] w λe w'=>e=.returned ↑true/\SH B w' (aV 44 1 (.slice p 3 3) 3 [↑a,↑b,↑c]::L):=
 EB n [a,b,c] p 3 h (λr m=>by simp at m;rcases m with rfl|rfl|rfl<;>assumption) (by simp)
theorem MB(k:Int)(h:SH B w (L)):
  Calls prog 86 #[↑k] w λe w'=>e=.returned (.bool (Ct.FW k))/\SH B w' L:=by
 refine cN func86 ntmps86 h λw h=>?_
 refine qg h (λdF w h=>?_) λdF w h=>?_
 have xZ:=eq_of_beq dF
 refine go h λw h=>?_
 refine rz ?_
 refine⟨?_,h⟩
 unfold Ct.FW;rw[dF];rfl
 have Lt:=bM dF
 refine go h λw h=>?_
 refine qg h (λeB w h=>?_) λeB w h=>?_
 have Vu:=eq_of_beq eB
 refine go h λw h=>?_
 refine rz ?_
 refine⟨?_,h⟩
 unfold Ct.FW;rw[dF,eB];rfl
 have CX:=bM eB
 refine go h λw h=>?_
 refine qg h (λfF w h=>?_) λfF w h=>?_
 have Ua:=eq_of_beq fF
 refine go h λw h=>?_
 refine rz ?_
 refine⟨?_,h⟩
 unfold Ct.FW;rw[dF,eB,fF];rfl
 have CY:=bM fF
 refine go h λw h=>?_
 refine qg h (λdG w h=>?_) λdG w h=>?_
 have N8:=eq_of_beq dG
 refine go h λw h=>?_
 refine rz ?_
 refine⟨?_,h⟩
 unfold Ct.FW;rw[dF,eB,fF,dG];rfl
 have QK:=bM dG
 refine go h λw h=>?_
 refine rz ?_
 refine⟨?_,h⟩
 unfold Ct.FW;rw[dF,eB,fF,dG];rfl
theorem EG(n:Ct.Node)(q:Lq)(h:SH B w (L))(h0:0<=n.main/\0<=n.prev/\0<=n.status)(h1:n.main+n.prev+n.status<=1000000000000):
  Calls prog 87 #[.agg (aK n q).toArray] w λe w'=>e=.returned ↑n.cellOf/\SH B w' L:=by
 refine cN func87 ntmps87 h λw h=>?_
 refine jX h λb1 w h=>?_
 refine st (ba (n.main+n.prev))<|go h λw h=>?_
 refine st (ba (n.main+n.prev+n.status))<|go h λw h=>?_
 exact rz ⟨rfl,h.drop⟩
theorem UZ(n:Ct.Node)(q:Lq)(h:SH B w (aL n q::L))(hv:n.valid=true)(hb:n.aA.length<=1000000)(hp:n.aH.length<=1000000000000)(hm:n.aC<18446744073709551616):
  Calls prog 85 #[.agg (aK n q).toArray] w λe w'=>e=.returned ↑true/\SH B w' (aL n q::L):=Di n q.pb q.cb q.pp q.cp h hv hb hp hm
theorem ZV(n:Ct.Node)(h:SH B w L):Calls prog 86 #[↑n.kind] w λe w'=>e=.returned ↑n.bD/\SH B w' L:=by
 rw[<- Ct.W5];exact MB n.kind h
theorem EV(s:Ct.St)(zs:List (Ct.Node×Lq))(pn pc:Option Addr)(cn cc:Nat)(h:SH B w (aV 53 14 (.slice pn zs.length cn) zs.length (zs.flatMap bY)::aV 44 1 (.slice pc s.cells.length cc) s.cells.length (s.cells.map (Value.int .i64))::bH zs::L))(fC:zs.map Prod.fst=aZ s)(hp:Ct.lB s)(hf:∀n∈aZ s,n.aA.length<=1000000/\n.aH.length<=200000000000/\n.aC<18446744073709551616)(hr:s.size<=100000000000):
  Calls prog 49 #[.agg [.slice pn zs.length cn,.slice pc s.cells.length cc,↑(s.gen:Int)].toArray] w λe w'=>e=.returned ↑true/\SH B w' (aV 53 14 (.slice pn zs.length cn) zs.length (zs.flatMap bY)::aV 44 1 (.slice pc s.cells.length cc) s.cells.length (s.cells.map (Value.int .i64))::bH zs::L):=by
 have Ud:=iI fC
 have Js:s.aG.length+s.cells.length+s.gen+s.acc<=100000000000:=hr
 have K9:((aZ s).filter Ct.Node.bD).Pairwise _:=hp.pJ
 obtain⟨hk0,hk1⟩:=JN fC
 refine cN func49 ntmps49 h λw h=>?_
 refine jX h λb1 w h=>?_
 obtain⟨b2,rfl⟩:=h.fp a1 (by omega)
 refine go h λw h=>?_
 refine st (ld One.h rfl ((h.ro a1).x gH (by decide) (j:=0) (by omega) ({},{}) 0 _ rfl))<|go h λw h=>?_
 refine gT rfl rfl (xA (by omega))<|go h λw h=>?_
 refine gT rfl rfl (xA (by omega))<|go h λw h=>?_
 refine gT rfl rfl (xA (by omega))<|go h λw h=>?_
 refine gT rfl rfl (xA (by omega))<|go h λw h=>?_
 refine gT rfl rfl (xA (by omega))<|st (ld One.h rfl ((h.ro a1).x gH (by decide) (j:=1) (by omega) ({},{}) 0 _ rfl))<|gT rfl rfl (xA (by omega))<|go h λw h=>?_
 refine st (pF rfl (xA (by omega)) rfl)<|go h λw h=>?_
 refine gT rfl rfl (xA (by omega))<|go h λw h=>?_
 refine gT rfl rfl (xA (by omega))<|go h λw h=>?_
 refine gT rfl rfl (xA (by omega))<|go h λw h=>?_
 refine st (pF rfl (xA (by omega)) rfl)<|go h λw h=>?_
 refine bQ (EB _ _ _ _ h.to (by rw[Ud];exact hp.cells) (by omega)) λw h=>?_
 refine sf (mk h gB.h Ss.h rfl rfl (by omega) (by unfold maxLen;omega)) ?_
 rintro _ w ⟨b3,rfl,h⟩
 refine go h λw h=>?_
 rw[vO sM (by decide) (d:=false) rfl]at h
 refine go h λw h=>?_
 refine lp (α:=Nat×List Bool) (λρ=>(.c 1 ↑b1 (.c 3 ↑(zs.length:Int) (.c 4 (.slice (some ⟨b3,0,none⟩) s.cells.length s.cells.length) (.c 5 (.int .i64 (ρ.1:Int)) .n))))) (λρ w=>SH B w (aV 4 1 (.slice (some ⟨b3,0,none⟩) s.cells.length s.cells.length) s.cells.length (ρ.2.flatMap IY)::aV 44 1 (.slice pc s.cells.length cc) s.cells.length (s.cells.map (Value.int .i64))::bl b1 ([.slice (some ⟨b2,0,none⟩) zs.length cn,.slice pc s.cells.length cc,↑(s.gen:Int)]) 42::aV 53 14 (.slice (some ⟨b2,0,none⟩) zs.length cn) zs.length (zs.flatMap bY)::bH zs::L)/\(Ct.Ld (aZ s) ρ.1 ρ.2)/\(ρ.2.length=s.cells.length)/\(ρ.1<=zs.length)) (λρ=>zs.length-ρ.1) (0,List.replicate s.cells.length false) ⟨rfl,rfl,rfl,rfl,trivial⟩ ⟨h,(Ct.Ql _ _),(NU ..),(bZ _)⟩ ?_
 rintro⟨k,bs⟩ w ⟨h,hN,hbs,hk⟩
 dsimp only at *
 refine go h λw h=>?_
 refine qc h (λeB w h=>?_) λeB w h=>?_
 have Vu:=dH eB
 refine go h λw h=>?_
 refine st (kB rfl ((h.ro a3).x gH (by decide) (by omega) ({},{})) Row.h)<|go h λw h=>?_
 refine jA h λb6 w h=>?_
 obtain⟨hm,hkn,P6⟩:=zN fC (k:=k) (by omega)
 have pQ:=hp.all _ hm.2
 have YN:=hf _ hm.2
 have hfb:=YN.1
 have hfp:=YN.2.1
 have hfm:=YN.2.2
 have h:=h.IG a5 hm.1
 have hnn:=I0 pQ.valid
 have h:=h.Wr a0
 have h:=SH.se (l:=[bE (zs.getD k ({},{})).1 (zs.getD k ({},{})).2,cP (zs.getD k ({},{})).1 (zs.getD k ({},{})).2]) h
 refine go h λw h=>?_
 refine bQ (UZ _ _ h.to pQ.valid (by omega) (by omega) (by omega)) λw h=>?_
 refine gT rfl rfl (cI (by have:=pQ.gen;omega))<|go h λw h=>?_
 refine gT rfl rfl (cI (by have:=pQ.gen;omega))<|go h λw h=>?_
 refine gT rfl rfl (cI (by have:=pQ.gen;omega))<|go h λw h=>?_
 refine gT rfl rfl (cI (by have:=pQ.gen;omega))<|go h λw h=>?_
 refine bQ (J2 _ _ _ _ h.to (by rw[Ud];exact pQ.br) (by omega)) λw h=>?_
 refine gT rfl rfl (cI (by have:=pQ.gen;omega))<|go h λw h=>?_
 refine st (pF rfl (cI (by have:=pQ.gen;omega)) rfl)<|go h λw h=>?_
 refine sf (bu [.int .i64 (zs.getD k ({},{})).1.dO,.int .i64 (zs.getD k ({},{})).1.aS,.int .i64 (zs.getD k ({},{})).1.new] h gB.h Ss.h rfl (by kernel_rfl) rfl (by decide) (by decide)) ?_
 rintro _ w ⟨b7,rfl,h⟩
 refine go h λw h=>?_
 refine bQ (o0 _ _ _ _ _ h.to (by have:=pQ.dO;have:=pQ.ex;have:=pQ.nw;omega) (by have:=pQ.dO;have:=pQ.ex;have:=pQ.nw;omega) (by have:=pQ.dO;have:=pQ.ex;have:=pQ.nw;omega)) λw h=>?_
 refine bQ (ZV _ h.to) λw h=>?_
 refine qc h (λfG w h=>?_) λfG w h=>?_
 have wE:=(gZ _).mp fG
 refine go h λw h=>?_
 exact⟨(k+1,bs),⟨rfl,rfl,rfl,rfl,trivial⟩,⟨h.drop.drop.drop.drop.drop,(Ct.Dn hN),by(try dsimp only);omega,by(try dsimp only);omega⟩,by(try dsimp only);omega⟩
 have dG:=(hU _).mp fG
 refine go h λw h=>?_
 refine bQ (EG _ _ h.to hnn (aA7 hp hm.2 hnn dG Js)) λw h=>?_
 refine gT rfl rfl (cI (by have:=pQ.lo dG;have:=vY hp hm.2 dG;omega))<|go h λw h=>?_
 refine gT rfl rfl (cI (by have:=pQ.lo dG;have:=vY hp hm.2 dG;omega))<|go h λw h=>?_
 refine gT rfl rfl (cI (by have:=pQ.lo dG;have:=vY hp hm.2 dG;omega))<|go h λw h=>?_
 refine gT rfl rfl (cI (by have:=pQ.lo dG;have:=vY hp hm.2 dG;omega))<|go h λw h=>?_
 refine gT rfl rfl (cI (by have:=pQ.lo dG;have:=vY hp hm.2 dG;omega))<|go h λw h=>?_
 refine st (pF rfl (cI (by have:=pQ.lo dG;have:=vY hp hm.2 dG;omega)) rfl)<|go h λw h=>?_
 refine gT rfl rfl (cI (by have:=pQ.lo dG;have:=vY hp hm.2 dG;omega))<|go h λw h=>?_
 refine gT rfl rfl (cI (by have:=pQ.lo dG;have:=vY hp hm.2 dG;omega))<|go h λw h=>?_
 refine gT rfl rfl (cI (by have:=pQ.lo dG;have:=vY hp hm.2 dG;omega))<|go h λw h=>?_
 have hcp:=vY hp hm.2 dG
 obtain⟨j,hj⟩:∃j:Nat,(zs.getD k ({},{})).1.cellOf -1=(j:Int):=⟨((zs.getD k ({},{})).1.cellOf -1).toNat,by have:=pQ.lo dG;omega⟩
 have hjl:j<s.cells.length:=by have:=pQ.lo dG;omega
 have oU:(zs.getD k ({},{})).1.jN -1=(j:Int):=by rw[<- hcp];exact hj
 refine st (bw rfl rfl (Jb (c:=(j:Int)) (by omega) (by omega) (by omega)))<|gT rfl rfl (cI (by have:=pQ.lo dG;have:=vY hp hm.2 dG;omega))<|?_
 refine st (ix (j:=j) CC MQ rfl rfl (by omega))<|?_
 refine go h λw h=>?_
 refine st (ld One.h rfl ((h.ro a5).x sM (by decide) (by omega) false 0 _ rfl))<|st (pF rfl (cI (by have:=pQ.lo dG;have:=vY hp hm.2 dG;omega)) rfl)<|go h λw h=>?_
 refine cf rfl (Ct.GM K9 hN hkn (by rw[<- P6];exact dG) (by rw[<- P6];exact oU))<|go h λw h=>?_
 refine st (bw rfl rfl (Jb (c:=(j:Int)) (by omega) (by omega) (by omega)))<|?_
 refine st (ix (j:=j) CC MQ rfl rfl (by omega))<|?_
 refine go h λw h=>?_
 refine sf (sor (enc:=IY) (a:=true) h Sz.h sM AK rfl rfl rfl (by omega) (by omega) u5) ?_
 rintro _ w h
 refine go h λw h=>?_
 exact⟨(k+1,bs.set j true),⟨rfl,rfl,rfl,rfl,trivial⟩,⟨h.drop.drop.drop.drop.drop,(Ct.Su hN hkn (by rw[<- P6];exact dG) (by rw[<- P6];exact oU)),by(try dsimp only);rw[tS];omega,by(try dsimp only);omega⟩,by(try dsimp only);omega⟩
 have N8:=dR eB
 refine go h λw h=>?_
 exact rz ⟨rfl,(h.to.fr (.c r1 (.c r0 (.c r0 .n))))⟩
theorem qP(s:Ct.St)(zs:List (Ct.Node×Lq))(pn pc:Option Addr)(cn cc:Nat)(c:Int)(h:SH B w (aV 53 14 (.slice pn zs.length cn) zs.length (zs.flatMap bY)::aV 44 1 (.slice pc s.cells.length cc) s.cells.length (s.cells.map (Value.int .i64))::bH zs::L))(fC:zs.map Prod.fst=aZ s)(hr:s.size<=100000000000):
  Calls prog 61 #[.agg [.slice pn zs.length cn,.slice pc s.cells.length cc,↑(s.gen:Int)].toArray,↑c] w λe w'=>e=.returned (.int .i64 (s.load c).2)/\SH B w' (aV 53 14 (.slice pn zs.length cn) zs.length (zs.flatMap bY)::aV 44 1 (.slice pc s.cells.length cc) s.cells.length (s.cells.map (Value.int .i64))::bH zs::L):=by
 have Js:s.aG.length+s.cells.length+s.gen+s.acc<=100000000000:=hr
 refine cN func61 ntmps61 h λw h=>?_
 refine jX h λb1 w h=>?_
 refine qg h (λcO w h=>?_) λcO w h=>?_
 have Lt:=dH cO
 refine go h λw h=>?_
 exact rz ⟨by rw[show (s.load c).2=0 from Gf (by omega)],h.drop⟩
 have Tv:=dR cO
 refine go h λw h=>?_
 refine qc h (λdM w h=>?_) λdM w h=>?_
 have CX:=dH dM
 refine go h λw h=>?_
 exact rz ⟨by rw[show (s.load c).2=0 from Gf (by omega)],h.drop⟩
 have El:=dR dM
 refine go h λw h=>?_
 obtain⟨j,hj⟩:∃j:Nat,c-1=(j:Int):=⟨(c-1).toNat,by omega⟩
 refine st (bs (j:Int))<|go h λw h=>?_
 obtain⟨b8,rfl⟩:=h.fp a2 (by omega)
 refine go h λw h=>?_
 exact rz ⟨by rw[show (s.load c).2=s.cells.getD j 0 from Qt hj (by omega)],h.drop⟩
theorem eX(s:Ct.St)(zs:List (Ct.Node×Lq))(pn pc:Option Addr)(cn cc:Nat)(r:Int)(h:SH B w (aV 53 14 (.slice pn zs.length cn) zs.length (zs.flatMap bY)::aV 44 1 (.slice pc s.cells.length cc) s.cells.length (s.cells.map (Value.int .i64))::bH zs::L))(fC:zs.map Prod.fst=aZ s)(hr:s.size<=100000000000):
  Calls prog 62 #[.agg [.slice pn zs.length cn,.slice pc s.cells.length cc,↑(s.gen:Int)].toArray,↑r] w λe w'=>∃q,e=.returned (.agg (aK (s.node r) q).toArray)/\SH B w' (aL (s.node r) q::aV 53 14 (.slice pn zs.length cn) zs.length (zs.flatMap bY)::aV 44 1 (.slice pc s.cells.length cc) s.cells.length (s.cells.map (Value.int .i64))::bH zs::L):=by
 have Ud:=iI fC
 have Js:s.aG.length+s.cells.length+s.gen+s.acc<=100000000000:=hr
 refine cN func62 ntmps62 h λw h=>?_
 refine jX h λb1 w h=>?_
 refine jA h λb2 w h=>?_
 refine qg h (λcJ w h=>?_) λcJ w h=>?_
 have Tv:=dH cJ
 refine go h λw h=>?_
 refine rr (cD rfl rfl (h.b a0) Row.h) ?_
 rw[uE s r (by omega)];exact⟨{},rfl,SH.fI _ rfl rfl h.drop.drop⟩
 have Vu:=dR cJ
 refine go h λw h=>?_
 refine qc h (λdJ w h=>?_) λdJ w h=>?_
 have El:=dH dJ
 refine go h λw h=>?_
 refine rr (cD rfl rfl (h.b a0) Row.h) ?_
 rw[uE s r (by omega)];exact⟨{},rfl,SH.fI _ rfl rfl h.drop.drop⟩
 have Ua:=dR dJ
 refine go h λw h=>?_
 obtain⟨j,hj⟩:∃j:Nat,r-1=(j:Int):=⟨(r-1).toNat,by omega⟩
 refine st (bs (j:Int))<|go h λw h=>?_
 obtain⟨b9,rfl⟩:=h.fp a2 (by omega)
 refine go h λw h=>?_
 refine st (kB rfl ((h.ro a2).x gH (by decide) (by omega) ({},{})) Row.h)<|go h λw h=>?_
 refine rr (cD rfl rfl (h.b a0) Row.h) ?_
 obtain⟨hm,hn⟩:=SD fC hj (by omega)
 have h:=h.IG a4 hm
 rw[<- hn];exact⟨_,rfl,(h.fr (.c r1 (.c r1 .n))).drop.drop⟩
theorem UX(s:Ct.St)(zs:List (Ct.Node×Lq))(pn pc:Option Addr)(cn cc:Nat)(t:Ct.aX)(h:SH B w (aV 53 14 (.slice pn zs.length cn) zs.length (zs.flatMap bY)::aV 44 1 (.slice pc s.cells.length cc) s.cells.length (s.cells.map (Value.int .i64))::bH zs::L))(fC:zs.map Prod.fst=aZ s)(hr:s.size<=100000000000):
  Calls prog 50 #[.agg [.slice pn zs.length cn,.slice pc s.cells.length cc,↑(s.gen:Int)].toArray,.agg [↑t.root,↑t.readOnly].toArray] w λe w'=>e=.returned (.tuple #[.int .i64 (Ct.rootOf s t).1,.bool (Ct.rootOf s t).2])/\SH B w' (aV 53 14 (.slice pn zs.length cn) zs.length (zs.flatMap bY)::aV 44 1 (.slice pc s.cells.length cc) s.cells.length (s.cells.map (Value.int .i64))::bH zs::L):=by
 refine cN func50 ntmps50 h λw h=>?_
 refine jX h λb1 w h=>?_
 refine jX h λb2 w h=>?_
 refine bQ (qP _ _ _ _ _ _ _ h.to fC hr) λw h=>?_
 refine cS (eX _ _ _ _ _ _ _ h.to fC hr) λq3 w h=>?_
 refine jA h λb4 w h=>?_
 refine qc h (λdM w h=>?_) λdM w h=>?_
 refine bQ (qP _ _ _ _ _ _ _ h.to fC hr) λw h=>?_
 refine qc h (λfF w h=>?_) λfF w h=>?_
 refine cS (eX _ _ _ _ _ _ _ h.to fC hr) λq9 w h=>?_
 refine qc h (λdG w h=>?_) λdG w h=>?_
 refine rr (iG rfl rfl rfl) ?_
 refine⟨?_,h.to⟩
 have hx:Ct.rootOf s t=(0,false):=by unfold Ct.rootOf Ct.Ce;simp only[dM,fF,dG,tV,fN,xX,Ji]
 rw[hx]
 refine rr (iG rfl rfl rfl) ?_
 refine⟨?_,h.to⟩
 have hx:Ct.rootOf s t=((s.node (s.load t.root).2).new,true):=by unfold Ct.rootOf Ct.Ce;simp only[dM,fF,dG,tV,fN,xX,Ji]
 rw[hx]
 refine cS (eX _ _ _ _ _ _ _ h.to fC hr) λQD w h=>?_
 refine qc h (λjI w h=>?_) λjI w h=>?_
 refine rr (iG rfl rfl rfl) ?_
 refine⟨?_,h.to⟩
 have hx:Ct.rootOf s t=(0,false):=by unfold Ct.rootOf Ct.Ce;simp only[dM,fF,jI,tV,fN,xX,Ji]
 rw[hx]
 refine rr (iG rfl rfl rfl) ?_
 refine⟨?_,h.to⟩
 have hx:Ct.rootOf s t=((s.node (s.load t.root).2).dO,true):=by unfold Ct.rootOf Ct.Ce;simp only[dM,fF,jI,tV,fN,xX,Ji]
 rw[hx]
 refine cS (eX _ _ _ _ _ _ _ h.to fC hr) λBk w h=>?_
 refine qc h (λjV w h=>?_) λjV w h=>?_
 refine rr (iG rfl rfl rfl) ?_
 refine⟨?_,h.to⟩
 have hx:Ct.rootOf s t=(0,false):=by unfold Ct.rootOf Ct.Ce;simp only[dM,jV,tV,fN,xX,Ji]
 rw[hx]
 refine rr (iG rfl rfl rfl) ?_
 refine⟨?_,h.to⟩
 have hx:Ct.rootOf s t=((s.load t.root).2,true):=by unfold Ct.rootOf Ct.Ce;simp only[dM,jV,tV,fN,xX,Ji]
 rw[hx]
theorem VP(s:Ct.St)(zs:List (Ct.Node×Lq))(pn pc:Option Addr)(cn cc:Nat)(i:Int)(h:SH B w (aV 53 14 (.slice pn zs.length cn) zs.length (zs.flatMap bY)::aV 44 1 (.slice pc s.cells.length cc) s.cells.length (s.cells.map (Value.int .i64))::bH zs::L))(fC:zs.map Prod.fst=aZ s)(hr:s.size<=100000000000):
  Calls prog 97 #[.agg [.slice pn zs.length cn,.slice pc s.cells.length cc,↑(s.gen:Int)].toArray,↑i] w λe w'=>e=.returned (.tuple #[.int .i64 (Ct.cX s i).1,.bool (Ct.cX s i).2])/\SH B w' (aV 53 14 (.slice pn zs.length cn) zs.length (zs.flatMap bY)::aV 44 1 (.slice pc s.cells.length cc) s.cells.length (s.cells.map (Value.int .i64))::bH zs::L):=by
 refine cN func97 ntmps97 h λw h=>?_
 refine jX h λb1 w h=>?_
 refine cS (eX _ _ _ _ _ _ _ h.to fC hr) λq2 w h=>?_
 refine qc h (λcJ w h=>?_) λcJ w h=>?_
 refine rr (iG rfl rfl rfl) ?_
 refine⟨?_,h.to⟩
 have hx:Ct.cX s i=(0,false):=by unfold Ct.cX Ct.Ch Ct.rZ Ct.wB;simp only[cJ,tV,fN,xX,Ji]
 rw[hx]
 refine fD [1,3,5,6,9,10,12] (by kernel_rfl) h (.c r4 .n) λw h=>go h λw h=>?_
 refine nP (eX _ _ _ _ _ _ _ h.to fC hr) λq6 w h=>?_
 refine qB (qP _ _ _ _ _ _ _ h.to fC hr) λw h=>?_
 refine cS (eX _ _ _ _ _ _ _ h.to fC hr) λq7 w h=>?_
 refine bQ (BW _ _ h.to) λw h=>?_
 refine qc h (λfG w h=>?_) λfG w h=>?_
 have wE:=(gZ _).mp fG
 refine rr (iG rfl rfl rfl) ?_
 refine⟨?_,h.to⟩
 have hx:Ct.cX s i=(0,false):=by unfold Ct.cX Ct.Ch Ct.rZ Ct.wB;simp only[cJ,fG,wE,tV,fN,xX,Ji]
 rw[hx]
 have dG:=(hU _).mp fG
 refine fD [1,3,5,6,9,10,12] (by kernel_rfl) h (.c r6 .n) λw h=>go h λw h=>?_
 refine nP (eX _ _ _ _ _ _ _ h.to fC hr) λUg w h=>?_
 refine qB (qP _ _ _ _ _ _ _ h.to fC hr) λw h=>?_
 refine qc h (λfO w h=>?_) λfO w h=>?_
 refine rr (iG rfl rfl rfl) ?_
 refine⟨?_,h.to⟩
 have hx:Ct.cX s i=((s.load (s.node i).main).2,true):=by unfold Ct.cX Ct.Ch Ct.rZ Ct.wB;simp only[cJ,fG,dG,fO,tV,fN,xX,Ji]
 rw[hx]
 refine cS (eX _ _ _ _ _ _ _ h.to fC hr) λq15 w h=>?_
 refine qc h (λAb w h=>?_) λAb w h=>?_
 refine cS (eX _ _ _ _ _ _ _ h.to fC hr) λPY w h=>?_
 refine cS (eX _ _ _ _ _ _ _ h.to fC hr) λBk w h=>?_
 refine bQ (BW _ _ h.to) λw h=>?_
 refine qc h (λjV w h=>?_) λjV w h=>?_
 have nX:=(gZ _).mp jV
 refine rr (iG rfl rfl rfl) ?_
 refine⟨?_,h.to⟩
 have hx:Ct.cX s i=(0,false):=by unfold Ct.cX Ct.Ch Ct.rZ Ct.wB;simp only[cJ,fG,dG,fO,Ab,jV,nX,tV,fN,xX,Ji]
 rw[hx]
 have mW:=(hU _).mp jV
 refine rr (iG rfl rfl rfl) ?_
 refine⟨?_,h.to⟩
 have hx:Ct.cX s i=((s.node (s.load (s.node (s.load (s.node i).main).2).prev).2).dO,true):=by unfold Ct.cX Ct.Ch Ct.rZ Ct.wB;simp only[cJ,fG,dG,fO,Ab,jV,mW,tV,fN,xX,Ji]
 rw[hx]
 refine cS (eX _ _ _ _ _ _ _ h.to fC hr) λS3 w h=>?_
 refine bQ (BW _ _ h.to) λw h=>?_
 refine qc h (λKE w h=>?_) λKE w h=>?_
 have kQ:=(gZ _).mp KE
 refine rr (iG rfl rfl rfl) ?_
 refine⟨?_,h.to⟩
 have hx:Ct.cX s i=(0,false):=by unfold Ct.cX Ct.Ch Ct.rZ Ct.wB;simp only[cJ,fG,dG,fO,Ab,KE,kQ,tV,fN,xX,Ji]
 rw[hx]
 have Mj:=(hU _).mp KE
 refine rr (iG rfl rfl rfl) ?_
 refine⟨?_,h.to⟩
 have hx:Ct.cX s i=((s.load (s.node (s.load (s.node i).main).2).prev).2,true):=by unfold Ct.cX Ct.Ch Ct.rZ Ct.wB;simp only[cJ,fG,dG,fO,Ab,KE,Mj,tV,fN,xX,Ji]
 rw[hx]
theorem WL(s:Ct.St)(zs:List (Ct.Node×Lq))(pn pc:Option Addr)(cn cc:Nat)(t:Ct.aX)(h:SH B w (aV 53 14 (.slice pn zs.length cn) zs.length (zs.flatMap bY)::aV 44 1 (.slice pc s.cells.length cc) s.cells.length (s.cells.map (Value.int .i64))::bH zs::L))(fC:zs.map Prod.fst=aZ s)(hr:s.size<=100000000000)(hp:Ct.lB s)(hf:∀n∈aZ s,n.aA.length<=1000000/\n.aH.length<=200000000000/\n.aC<18446744073709551616):
  Calls prog 12 #[.agg [.slice pn zs.length cn,.slice pc s.cells.length cc,↑(s.gen:Int)].toArray,.agg [↑t.root,↑t.readOnly].toArray] w λe w'=>e=.returned (.tuple #[.int .i64 (Ct.rootOf s t).1,.bool (Ct.rootOf s t).2])/\SH B w' (aV 53 14 (.slice pn zs.length cn) zs.length (zs.flatMap bY)::aV 44 1 (.slice pc s.cells.length cc) s.cells.length (s.cells.map (Value.int .i64))::bH zs::L):=by
 have Ud:=iI fC
 have Js:s.aG.length+s.cells.length+s.gen+s.acc<=100000000000:=hr
 refine cN func12 ntmps12 h λw h=>?_
 refine jX h λb1 w h=>?_
 refine jX h λb2 w h=>?_
 refine bQ (EV _ _ _ _ _ _ h.to fC hp hf hr) λw h=>?_
 refine bQ (UX _ _ _ _ _ _ _ h.to fC hr) λw h=>?_
 exact rr (iG rfl rfl rfl)<|⟨rfl,h.to⟩
theorem Ps(s:Ct.St)(zs:List (Ct.Node×Lq))(pn pc:Option Addr)(cn cc:Nat)(i m:Int)(b:Bool)(hb:Ct.cX s i=(m,b))(h:SH B w (aV 53 14 (.slice pn zs.length cn) zs.length (zs.flatMap bY)::aV 44 1 (.slice pc s.cells.length cc) s.cells.length (s.cells.map (Value.int .i64))::bH zs::L))(fC:zs.map Prod.fst=aZ s)(hr:s.size<=100000000000):
  Calls prog 97 #[.agg [.slice pn zs.length cn,.slice pc s.cells.length cc,↑(s.gen:Int)].toArray,↑i] w λe w'=>e=.returned (.tuple #[↑m,↑b])/\SH B w' (aV 53 14 (.slice pn zs.length cn) zs.length (zs.flatMap bY)::aV 44 1 (.slice pc s.cells.length cc) s.cells.length (s.cells.map (Value.int .i64))::bH zs::L):=by
 have:=VP s zs pn pc cn cc i h fC hr
 rw[hb]at this;exact this
section
attribute [local semireducible] gA wpS Go.E.X XS C kV lL fin Y U F Ca kU bl rb aV bS ex ce pu sK gK bK zK gG fE cZ gY mA
attribute [local irreducible] gA wpS
end
end Go.Q9
end
section
namespace Go.E
open Go.RowKit
variable{B w:World}{L:List As}{P:Program}{n:Nat}{K:kG}{e:Tm}{ops:Array Oper}{l:List Oper}
variable{d:Option Tmp}{ty:TypeId}{ps:String}{af:Array Edge}
theorem oY(v:Fv):v.val.cells=[v.val].toArray:=by cases v<;>rfl
theorem O6{x:Operand}{v:Fv}{az:Array Operand}{ats:Array TypeId}{vs:List Value}(hx:ev n e x=some v.val)(ha:uU n e az.toList=some vs)
  (k:lS P v vs w λy w'=>∃u,y=.returned u/\X P n ops l K (Tm.put e d u) w'):X P n ops (⟨d,.call ⟨.value x,az,ats⟩,ty,ps,af,none⟩::l) K e w:=by
 obtain⟨f,ff,fc,rfl,en,hc⟩:=k
 exact cl (cv_ en hx ha) hc
end Go.E
namespace Go.Q9
open Go.Proofs.Tryz
open Go.RowKit Go.E
variable{B w w':World}{L:List As}{α β:Type}{S:fX}{F:β->Cc->As}{n m j:Nat}{args:α->List Value}{k:α->Ct.I β}{v:Fv}{s:Ct.St}
def yJ(_:Unit):List Value:=[]
theorem gL{i:Nat}(hm:m<=n)(hj:i<=j)(h:SH B w (gY S F n i args k v::L)):SH B w (gY S F m j args k v::L):=h.imp λO R=>Jn (MU hm) λ_ h=>h.less hj
theorem pR(h:SH B w (gY S F n j args k v::S.a s::L))(hs:Ct.Rm j s)(a:α):lS prog v (args a) w (CP S F n B (k a) s L):=SH.X7 h hs a
theorem mkl(l:List As)(h:SH B w (l++L))(hc:∀(B w:World) (L:List As) (s:Ct.St) (a:α),SH B w (l++S.a s::L)->Ct.Rm j s->lS prog v (args a) w (CP S F n B (k a) s L)):SH B w (gY S F n j args k v::L):=SH.mkC l h hc
theorem KN(l:List As)(h:SH B w (l++L))(hc:∀m,m<n->∀(B w:World) (L:List As) (s:Ct.St) (a:α),SH B w (l++S.a s::L)->Ct.Rm 100 s->lS prog v (args a) w (CP S F m B (k a) s L)):SH B w (ltA prog S.a (Ct.Rm 100) F args k v n::L):=SH.lt_ l h hc
def rQ{α β:Type}(S:fX)(F:β->Cc->As):Nat->Nat->(α->List Value)->(α->Ct.I β)->Fv->As
 |0,_,_,_,_=>G4
 |n+1,j,args,k,v=>gY S F n j args k v
theorem SA(l:List As)(h:SH B w (l++L))(hc:∀m,m<n->∀(B w:World) (L:List As) (s:Ct.St) (a:α),SH B w (l++S.a s::L)->Ct.Rm j s->lS prog v (args a) w (CP S F m B (k a) s L)):SH B w (rQ S F n j args k v::L):=by
 cases n with
 |zero=>exact(SH.is h).imp λ_ _ h=>Gr h
 |succ m=>exact mkl l h (hc m (PO m))
theorem Cu(hm:m<n)(h:SH B w (rQ S F n j args k v::L)):SH B w (gY S F m j args k v::L):=by
 cases n with
 |zero=>omega
 |succ n=>exact gL (Nat.le_of_lt_succ hm) (aW _) h
theorem AO{i:Nat}(hj:i<=j)(h:SH B w (gY S F n i args k v::L)):SH B w (rQ S F n j args k v::L):=by
 cases n with
 |zero=>exact h.imp λ_ _ h=>Gr h
 |succ m=>exact gL (Nat.le_succ m) hj h
theorem aI8(hj:j<=100)(h:SH B w (rQ S F n j args k v::L)):SH B w (ltA prog S.a (Ct.Rm 100) F args k v n::L):=by
 cases n with
 |zero=>exact h
 |succ m=>exact gL (aW m) hj h
theorem kL{a:Int}{k:Int->Ct.I β}(h:SH B w (ltA prog S.a (Ct.Rm 100) F eM k v n::L)):SH B w (mA S F n (.load a k) (sF a v)::L):=SH.ld_ h
theorem kC{a o x:Int}{k:Bool->Ct.I β}(h:SH B w (ltA prog S.a (Ct.Rm 100) F iC k v n::L)):SH B w (mA S F n (.cH a o x k) (Bo a o x v)::L):=SH.cs_ h
theorem jW{t t':Ct.I β}{s':Ct.St}{c:Cc}(hq:t.head s=(s',t'))(h:SH B w' (mA S F n t' c::S.a s'::L)):CP S F n B t s L (.returned (.agg (Cm c).toArray)) w':=⟨s',t',c,hq,rfl,h⟩
def jG(r:Ct.Result)(c:Cc):As:=pu (c=TI r)
theorem kD{r:Ct.Result}(h:SH B w L):SH B w (mA S jG n (.ret r) (TI r)::L):=SH.aNd (SH.ip rfl h)
theorem dK(S:fX)(s:Ct.St)(r:Int)(h:SH B w (S.a s::L))(hs:Ct.Rm j s):
  Calls prog 48 #[↑S.ab,↑r] w λe w'=>∃q,e=.returned (.agg (aK (s.node r) q).toArray)/\SH B w' (aL (s.node r) q::S.a s::L):=by
 refine(Ic S.ab s r h.so hs.Cn hs.fit).mono ?_
 rintro e w' ⟨q,rfl,h⟩
 exact⟨q,rfl,(SH.si (h.fr (.c r1 (.c r1 .n)))).fr (.c r1 .n)⟩
theorem dY(S:fX)(s:Ct.St)(n:Ct.Node)(q:Lq)(i:Int)(h:SH B w (aL n q::S.a s::L))(hs:Ct.Rm j s)(hf:n.Fit (s.aG.length+1)):
  Calls prog 319 #[↑S.ab,.agg (aK n q).toArray,↑i] w λe w'=>e=.returned (.int .i64 (s.alloc n i).2)/\SH B w' (S.a (s.alloc n i).1::L):=by
 have hb:=Hk hf (by have:=hs.Cn;unfold Ct.St.size at this;omega)
 refine(OY S.ab s n q i ((SH.so (h.fr (.c r1 .n))).fr (.c r2 (.c r0 .n))) hs.Cn hb.1 hb.2).mono ?_
 rintro e w' ⟨rfl,h⟩
 exact⟨rfl,SH.si h⟩
theorem UG(S:fX)(s:Ct.St)(c:Int)(h:SH B w (S.a s::L))(hs:Ct.Rm j s):
  Calls prog 321 #[↑S.ab,↑c] w λe w'=>e=.returned (.int .i64 (s.load c).2)/\SH B w' (S.a (s.load c).1::L):=by
 refine(XD S.ab s c h.so hs.Cn).mono ?_
 rintro e w' ⟨rfl,h⟩
 exact⟨rfl,SH.si h⟩
theorem g8(S:fX)(s:Ct.St)(c o n:Int)(h:SH B w (S.a s::L))(hs:Ct.Rm j s):
  Calls prog 320 #[↑S.ab,↑c,↑o,↑n] w λe w'=>e=.returned (.bool (s.cH c o n).2)/\SH B w' (S.a (s.cH c o n).1::L):=by
 refine(E0 S.ab s c o n h.so hs.Cn).mono ?_
 rintro e w' ⟨rfl,h⟩
 exact⟨rfl,SH.si h⟩
theorem W1{s:Ct.St}(h:Ct.Rm (j+1) s)(c:Int):Ct.Rm j (s.load c).1:=⟨h.fit,by have:=h.room;have:=(Ct.St.Bi s c).1;omega⟩
theorem aDb{s:Ct.St}(h:Ct.Rm (j+1) s)(c o n:Int):Ct.Rm j (s.cH c o n).1:=⟨(by unfold Ct.cL;rw[(Ct.St.zX s c o n).2];exact h.fit),by have:=h.room;have:=(Ct.St.zX s c o n).1;omega⟩
end Go.Q9
end
