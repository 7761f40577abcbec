/- Parts of a proof: Vw, C5. -/
import Derived.Test.YtnhdmcipglnkfaaGreatW31
set_option linter.unusedVariables false
set_option linter.unusedSimpArgs false
set_option maxRecDepth 100000
set_option maxHeartbeats 4000000
section
namespace Go.Q9
open Go.Proofs.Tryz
open Go.RowKit Go.E
attribute [local irreducible] gB wpS Go.E.X XS C jU kP fin Y U F Ca jT bl rb aU bV ex ce pu sK gK bK zK gM fO dH gP nE
theorem sI{s:Ct.St}{n:Ct.Node}(hp:Ct.iV s)(hm:n∈aW s)(hc:n.cA=true):n.cellOf=n.gZ:=by
 unfold aW at hm
 rcases List.mem_cons.1 hm with rfl|hm
 ·rw[Ct.Bx]at hc;cases hc
 ·rcases List.mem_cons.1 hm with rfl|hm
  ·rw[Ct.Bx]at hc;cases hc
  ·exact(hp.gZ hm hc).symm
theorem PT{n:Ct.Node}(h:n.valid=true):0<=n.main/\0<=n.prev/\0<=n.status:=by
 have:=Ct.fJ h;exact⟨this.main,this.prev,this.status⟩
theorem SZ{s:Ct.St}{n:Ct.Node}(hp:Ct.iV s)(hm:n∈aW s)(h0:0<=n.main/\0<=n.prev/\0<=n.status)(hc:n.cA=true)(hr:s.aG.length+s.cells.length+s.gen+s.acc<=100000000000):n.main+n.prev+n.status<=1000000000000:=by
 have h1:=(hp.all n hm).lo hc
 have h2:=sI hp hm hc
 unfold Ct.Node.cellOf at h2
 omega
variable{B w:World}{L:List As}
theorem Vi(n:Nat)(l:List Int)(p:Option Addr)(c:Nat)(h:SH B w (aU 44 1 (.slice p l.length c) l.length (l.map (Value.int .i64))::L))(hr:∀r∈l,0<=r/\r<=(n:Int))(hl:l.length<=1000000000000):
  Calls prog 84 #[↑(n:Int),.slice p l.length c] w λe w'=>e=.returned ↑true/\SH B w' (aU 44 1 (.slice p l.length c) l.length (l.map (Value.int .i64))::L):=by
 refine bZ func84 ntmps84 h λw h=>?_
 refine lp (α:=Nat) (λρ=>(.c 0 ↑(n:Int) (.c 1 (.slice p l.length c) (.c 5 (.int .i64 (ρ:Int)) .n)))) (λρ w=>SH B w (aU 44 1 (.slice p l.length c) l.length (l.map (Value.int .i64))::L)/\(ρ<=l.length)) (λρ=>l.length-ρ) 0 ⟨rfl,rfl,rfl,trivial⟩ ⟨h,dF _⟩ ?_
 rintro k w ⟨h,hk⟩
 refine go h λw h=>?_
 refine qc h (λhd1 w h=>?_) λhd1 w h=>?_
 have hg2:=eC hd1
 refine go h λw h=>?_
 obtain⟨b3,rfl⟩:=h.fp a0 (by omega)
 refine go h λw h=>?_
 refine gT rfl rfl (Ab (by have:=hr _ (fC (i:=k) (l:=l) (d:=0) (by omega));omega))<|go h λw h=>?_
 refine gT rfl rfl (Ab (by have:=hr _ (fC (i:=k) (l:=l) (d:=0) (by omega));omega))<|go h λw h=>?_
 refine gT rfl rfl (Ab (by have:=hr _ (fC (i:=k) (l:=l) (d:=0) (by omega));omega))<|go h λw h=>?_
 refine gT rfl rfl (Ab (by have:=hr _ (fC (i:=k) (l:=l) (d:=0) (by omega));omega))<|go h λw h=>?_
 refine gT rfl rfl (Ab (by have:=hr _ (fC (i:=k) (l:=l) (d:=0) (by omega));omega))<|go h λw h=>?_
 refine gT rfl rfl (Ab (by have:=hr _ (fC (i:=k) (l:=l) (d:=0) (by omega));omega))<|go h λw h=>?_
 refine st (pF rfl (Ab (by have:=hr _ (fC (i:=k) (l:=l) (d:=0) (by omega));omega)) rfl)<|go h λw h=>?_
 refine cf rfl (Ab (by have:=hr _ (fC (i:=k) (l:=l) (d:=0) (by omega));omega))<|go h λw h=>?_
 exact⟨(k+1),⟨rfl,rfl,rfl,trivial⟩,⟨h,by(try dsimp only);omega⟩,by(try dsimp only);omega⟩
 exact rz ⟨rfl,h⟩
theorem PK(n:Nat)(l:List Int)(p:Option Addr)(c:Nat)(h:SH B w (bV 1 (.slice p l.length c) l.length (l.map (Value.int .i64))::L))(hr:∀r∈l,0<=r/\r<=(n:Int))(hl:l.length<=1000000000000):
  Calls prog 84 #[↑(n:Int),.slice p l.length c] w λe w'=>e=.returned ↑true/\SH B w' (bV 1 (.slice p l.length c) l.length (l.map (Value.int .i64))::L):=by
 refine bZ func84 ntmps84 h λw h=>?_
 refine lp (α:=Nat) (λρ=>(.c 0 ↑(n:Int) (.c 1 (.slice p l.length c) (.c 5 (.int .i64 (ρ:Int)) .n)))) (λρ w=>SH B w (bV 1 (.slice p l.length c) l.length (l.map (Value.int .i64))::L)/\(ρ<=l.length)) (λρ=>l.length-ρ) 0 ⟨rfl,rfl,rfl,trivial⟩ ⟨h,dF _⟩ ?_
 rintro k w ⟨h,hk⟩
 refine go h λw h=>?_
 refine qc h (λhd1 w h=>?_) λhd1 w h=>?_
 have hg2:=eC hd1
 refine go h λw h=>?_
 obtain⟨b3,o4,rfl⟩:=h.fq a0 (by omega)
 refine go h λw h=>?_
 refine gT rfl rfl (Ab (by have:=hr _ (fC (i:=k) (l:=l) (d:=0) (by omega));omega))<|go h λw h=>?_
 refine gT rfl rfl (Ab (by have:=hr _ (fC (i:=k) (l:=l) (d:=0) (by omega));omega))<|go h λw h=>?_
 refine gT rfl rfl (Ab (by have:=hr _ (fC (i:=k) (l:=l) (d:=0) (by omega));omega))<|go h λw h=>?_
 refine gT rfl rfl (Ab (by have:=hr _ (fC (i:=k) (l:=l) (d:=0) (by omega));omega))<|go h λw h=>?_
 refine gT rfl rfl (Ab (by have:=hr _ (fC (i:=k) (l:=l) (d:=0) (by omega));omega))<|go h λw h=>?_
 refine gT rfl rfl (Ab (by have:=hr _ (fC (i:=k) (l:=l) (d:=0) (by omega));omega))<|go h λw h=>?_
 refine st (pF rfl (Ab (by have:=hr _ (fC (i:=k) (l:=l) (d:=0) (by omega));omega)) rfl)<|go h λw h=>?_
 refine cf rfl (Ab (by have:=hr _ (fC (i:=k) (l:=l) (d:=0) (by omega));omega))<|go h λw h=>?_
 exact⟨(k+1),⟨rfl,rfl,rfl,trivial⟩,⟨h,by(try dsimp only);omega⟩,by(try dsimp only);omega⟩
 exact rz ⟨rfl,h⟩
theorem PX(n:Nat)(a b c:Int)(p:Option Addr)(h:SH B w (aU 44 1 (.slice p 3 3) 3 [↑a,↑b,↑c]::L))(ha:0<=a/\a<=(n:Int))(hb:0<=b/\b<=(n:Int))(hc:0<=c/\c<=(n:Int)):
  Calls prog 84 #[↑(n:Int),.slice p 3 3] w λe w'=>e=.returned ↑true/\SH B w' (aU 44 1 (.slice p 3 3) 3 [↑a,↑b,↑c]::L):=
 Vi n [a,b,c] p 3 h (λr m=>by simp at m;rcases m with rfl|rfl|rfl<;>assumption) (by simp)
theorem BK(k:Int)(h:SH B w (L)):
  Calls prog 86 #[↑k] w λe w'=>e=.returned (.bool (Ct.Vo k))/\SH B w' L:=by
 refine bZ func86 ntmps86 h λw h=>?_
 refine qg h (λhd1 w h=>?_) λhd1 w h=>?_
 have hg2:=eq_of_beq hd1
 refine go h λw h=>?_
 refine rz ?_
 refine⟨?_,h⟩
 unfold Ct.Vo;rw[hd1];rfl
 have hg3:=dP hd1
 refine go h λw h=>?_
 refine qg h (λhd4 w h=>?_) λhd4 w h=>?_
 have hg5:=eq_of_beq hd4
 refine go h λw h=>?_
 refine rz ?_
 refine⟨?_,h⟩
 unfold Ct.Vo;rw[hd1,hd4];rfl
 have hg6:=dP hd4
 refine go h λw h=>?_
 refine qg h (λhd7 w h=>?_) λhd7 w h=>?_
 have hg8:=eq_of_beq hd7
 refine go h λw h=>?_
 refine rz ?_
 refine⟨?_,h⟩
 unfold Ct.Vo;rw[hd1,hd4,hd7];rfl
 have hg9:=dP hd7
 refine go h λw h=>?_
 refine qg h (λhd10 w h=>?_) λhd10 w h=>?_
 have hg11:=eq_of_beq hd10
 refine go h λw h=>?_
 refine rz ?_
 refine⟨?_,h⟩
 unfold Ct.Vo;rw[hd1,hd4,hd7,hd10];rfl
 have hg12:=dP hd10
 refine go h λw h=>?_
 refine rz ?_
 refine⟨?_,h⟩
 unfold Ct.Vo;rw[hd1,hd4,hd7,hd10];rfl
theorem Ww(n:Ct.Node)(q:Lq)(h:SH B w (L))(h0:0<=n.main/\0<=n.prev/\0<=n.status)(h1:n.main+n.prev+n.status<=1000000000000):
  Calls prog 87 #[.agg (aL n q).toArray] w λe w'=>e=.returned ↑n.cellOf/\SH B w' L:=by
 refine bZ func87 ntmps87 h λw h=>?_
 refine jX h λb1 w h=>?_
 refine st (ba (n.main+n.prev))<|go h λw h=>?_
 refine st (ba (n.main+n.prev+n.status))<|go h λw h=>?_
 exact rz ⟨rfl,h.drop⟩
theorem IU(n:Ct.Node)(q:Lq)(h:SH B w (aM n q::L))(hv:n.valid=true)(hb:n.aA.length<=1000000)(hp:n.aF.length<=1000000000000)(hm:n.aD<18446744073709551616):
  Calls prog 85 #[.agg (aL n q).toArray] w λe w'=>e=.returned ↑true/\SH B w' (aM n q::L):=yW n q.pb q.cb q.pp q.cp h hv hb hp hm
theorem LU(n:Ct.Node)(h:SH B w L):Calls prog 86 #[↑n.kind] w λe w'=>e=.returned ↑n.cA/\SH B w' L:=by
 rw[<- Ct.SK];exact BK n.kind h
theorem Zm(s:Ct.St)(zs:List (Ct.Node×Lq))(pn pc:Option Addr)(cn cc:Nat)(h:SH B w (aU 53 14 (.slice pn zs.length cn) zs.length (zs.flatMap cB)::aU 44 1 (.slice pc s.cells.length cc) s.cells.length (s.cells.map (Value.int .i64))::bE zs::L))(hzs:zs.map Prod.fst=aW s)(hp:Ct.iV s)(hf:∀n∈aW s,n.aA.length<=1000000/\n.aF.length<=200000000000/\n.aD<18446744073709551616)(hr:s.size<=100000000000):
  Calls prog 49 #[.agg [.slice pn zs.length cn,.slice pc s.cells.length cc,↑(s.gen:Int)].toArray] w λe w'=>e=.returned ↑true/\SH B w' (aU 53 14 (.slice pn zs.length cn) zs.length (zs.flatMap cB)::aU 44 1 (.slice pc s.cells.length cc) s.cells.length (s.cells.map (Value.int .i64))::bE zs::L):=by
 have hz2:=iC hzs
 have hrm:s.aG.length+s.cells.length+s.gen+s.acc<=100000000000:=hr
 have hsort:((aW s).filter Ct.Node.cA).Pairwise _:=hp.kG
 obtain⟨hk0,hk1⟩:=Wb hzs
 refine bZ func49 ntmps49 h λw h=>?_
 refine jX h λb1 w h=>?_
 obtain⟨b2,rfl⟩:=h.fp a1 (by omega)
 refine go h λw h=>?_
 refine st (ld One.h rfl ((h.ro a1).x fN (by decide) (j:=0) (by omega) ({},{}) 0 _ rfl))<|go h λw h=>?_
 refine gT rfl rfl (oE (by omega))<|go h λw h=>?_
 refine gT rfl rfl (oE (by omega))<|go h λw h=>?_
 refine gT rfl rfl (oE (by omega))<|go h λw h=>?_
 refine gT rfl rfl (oE (by omega))<|go h λw h=>?_
 refine gT rfl rfl (oE (by omega))<|st (ld One.h rfl ((h.ro a1).x fN (by decide) (j:=1) (by omega) ({},{}) 0 _ rfl))<|gT rfl rfl (oE (by omega))<|go h λw h=>?_
 refine st (pF rfl (oE (by omega)) rfl)<|go h λw h=>?_
 refine gT rfl rfl (oE (by omega))<|go h λw h=>?_
 refine gT rfl rfl (oE (by omega))<|go h λw h=>?_
 refine gT rfl rfl (oE (by omega))<|go h λw h=>?_
 refine st (pF rfl (oE (by omega)) rfl)<|go h λw h=>?_
 refine bA (Vi _ _ _ _ h.to (by rw[hz2];exact hp.cells) (by omega)) λw h=>?_
 refine sf (mk h fR.h Ss.h rfl rfl (by omega) (by unfold maxLen;omega)) ?_
 rintro _ w ⟨b3,rfl,h⟩
 refine go h λw h=>?_
 rw[rV oN (by decide) (d:=false) rfl]at h
 refine go h λw h=>?_
 refine lp (α:=Nat×List Bool) (λρ=>(.c 1 ↑b1 (.c 3 ↑(zs.length:Int) (.c 4 (.slice (some ⟨b3,0,none⟩) s.cells.length s.cells.length) (.c 5 (.int .i64 (ρ.1:Int)) .n))))) (λρ w=>SH B w (aU 4 1 (.slice (some ⟨b3,0,none⟩) s.cells.length s.cells.length) s.cells.length (ρ.2.flatMap RP)::aU 44 1 (.slice pc s.cells.length cc) s.cells.length (s.cells.map (Value.int .i64))::bl b1 ([.slice (some ⟨b2,0,none⟩) zs.length cn,.slice pc s.cells.length cc,↑(s.gen:Int)]) 42::aU 53 14 (.slice (some ⟨b2,0,none⟩) zs.length cn) zs.length (zs.flatMap cB)::bE zs::L)/\(Ct.Eu (aW s) ρ.1 ρ.2)/\(ρ.2.length=s.cells.length)/\(ρ.1<=zs.length)) (λρ=>zs.length-ρ.1) (0,List.replicate s.cells.length false) ⟨rfl,rfl,rfl,rfl,trivial⟩ ⟨h,(Ct.Hf _ _),(List.length_replicate ..),(dF _)⟩ ?_
 rintro⟨k,bs⟩ w ⟨h,hN,hbs,hk⟩
 dsimp only at *
 refine go h λw h=>?_
 refine qc h (λhd4 w h=>?_) λhd4 w h=>?_
 have hg5:=eC hd4
 refine go h λw h=>?_
 refine st (gJ rfl ((h.ro a3).x fN (by decide) (by omega) ({},{})) Row.h)<|go h λw h=>?_
 refine jA h λb6 w h=>?_
 obtain⟨hm,hkn,hnd⟩:=pP hzs (k:=k) (by omega)
 have hpn:=hp.all _ hm.2
 have hfn:=hf _ hm.2
 have hfb:=hfn.1
 have hfp:=hfn.2.1
 have hfm:=hfn.2.2
 have h:=h.Ll a5 hm.1
 have hnn:=PT hpn.valid
 have h:=h.Gs a0
 have h:=SH.se (l:=[aY (zs.getD k ({},{})).1 (zs.getD k ({},{})).2,cH (zs.getD k ({},{})).1 (zs.getD k ({},{})).2]) h
 refine go h λw h=>?_
 refine bA (IU _ _ h.to hpn.valid (by omega) (by omega) (by omega)) λw h=>?_
 refine gT rfl rfl (Ab (by have:=hpn.gen;omega))<|go h λw h=>?_
 refine gT rfl rfl (Ab (by have:=hpn.gen;omega))<|go h λw h=>?_
 refine gT rfl rfl (Ab (by have:=hpn.gen;omega))<|go h λw h=>?_
 refine gT rfl rfl (Ab (by have:=hpn.gen;omega))<|go h λw h=>?_
 refine bA (PK _ _ _ _ h.to (by rw[hz2];exact hpn.br) (by omega)) λw h=>?_
 refine gT rfl rfl (Ab (by have:=hpn.gen;omega))<|go h λw h=>?_
 refine st (pF rfl (Ab (by have:=hpn.gen;omega)) rfl)<|go h λw h=>?_
 refine sf (bu [.int .i64 (zs.getD k ({},{})).1.dC,.int .i64 (zs.getD k ({},{})).1.aK,.int .i64 (zs.getD k ({},{})).1.new] h fR.h Ss.h rfl (by kernel_rfl) rfl (by decide) (by decide)) ?_
 rintro _ w ⟨b7,rfl,h⟩
 refine go h λw h=>?_
 refine bA (PX _ _ _ _ _ h.to (by have:=hpn.dC;have:=hpn.ex;have:=hpn.nw;omega) (by have:=hpn.dC;have:=hpn.ex;have:=hpn.nw;omega) (by have:=hpn.dC;have:=hpn.ex;have:=hpn.nw;omega)) λw h=>?_
 refine bA (LU _ h.to) λw h=>?_
 refine qc h (λhd8 w h=>?_) λhd8 w h=>?_
 have hd9:=(lC _).mp hd8
 refine go h λw h=>?_
 exact⟨(k+1,bs),⟨rfl,rfl,rfl,rfl,trivial⟩,⟨h.drop.drop.drop.drop.drop,(Ct.yI hN),by(try dsimp only);omega,by(try dsimp only);omega⟩,by(try dsimp only);omega⟩
 have hd10:=(bI _).mp hd8
 refine go h λw h=>?_
 refine bA (Ww _ _ h.to hnn (SZ hp hm.2 hnn hd10 hrm)) λw h=>?_
 refine gT rfl rfl (Ab (by have:=hpn.lo hd10;have:=sI hp hm.2 hd10;omega))<|go h λw h=>?_
 refine gT rfl rfl (Ab (by have:=hpn.lo hd10;have:=sI hp hm.2 hd10;omega))<|go h λw h=>?_
 refine gT rfl rfl (Ab (by have:=hpn.lo hd10;have:=sI hp hm.2 hd10;omega))<|go h λw h=>?_
 refine gT rfl rfl (Ab (by have:=hpn.lo hd10;have:=sI hp hm.2 hd10;omega))<|go h λw h=>?_
 refine gT rfl rfl (Ab (by have:=hpn.lo hd10;have:=sI hp hm.2 hd10;omega))<|go h λw h=>?_
 refine st (pF rfl (Ab (by have:=hpn.lo hd10;have:=sI hp hm.2 hd10;omega)) rfl)<|go h λw h=>?_
 refine gT rfl rfl (Ab (by have:=hpn.lo hd10;have:=sI hp hm.2 hd10;omega))<|go h λw h=>?_
 refine gT rfl rfl (Ab (by have:=hpn.lo hd10;have:=sI hp hm.2 hd10;omega))<|go h λw h=>?_
 refine gT rfl rfl (Ab (by have:=hpn.lo hd10;have:=sI hp hm.2 hd10;omega))<|go h λw h=>?_
 have hcp:=sI hp hm.2 hd10
 obtain⟨j,hj⟩:∃j:Nat,(zs.getD k ({},{})).1.cellOf -1=(j:Int):=⟨((zs.getD k ({},{})).1.cellOf -1).toNat,by have:=hpn.lo hd10;omega⟩
 have hjl:j<s.cells.length:=by have:=hpn.lo hd10;omega
 have hj':(zs.getD k ({},{})).1.gZ -1=(j:Int):=by rw[<- hcp];exact hj
 refine st (bw rfl rfl (zW (c:=(j:Int)) (by omega) (by omega) (by omega)))<|gT rfl rfl (Ab (by have:=hpn.lo hd10;have:=sI hp hm.2 hd10;omega))<|?_
 refine st (ix (j:=j) CF AU rfl rfl (by omega))<|?_
 refine go h λw h=>?_
 refine st (ld One.h rfl ((h.ro a5).x oN (by decide) (by omega) false 0 _ rfl))<|st (pF rfl (Ab (by have:=hpn.lo hd10;have:=sI hp hm.2 hd10;omega)) rfl)<|go h λw h=>?_
 refine cf rfl (Ct.Vy hsort hN hkn (by rw[<- hnd];exact hd10) (by rw[<- hnd];exact hj'))<|go h λw h=>?_
 refine st (bw rfl rfl (zW (c:=(j:Int)) (by omega) (by omega) (by omega)))<|?_
 refine st (ix (j:=j) CF AU rfl rfl (by omega))<|?_
 refine go h λw h=>?_
 refine sf (ZB (enc:=RP) (a:=true) h Sz.h oN Qh rfl rfl rfl (by omega) (by omega) u5) ?_
 rintro _ w h
 refine go h λw h=>?_
 exact⟨(k+1,bs.set j true),⟨rfl,rfl,rfl,rfl,trivial⟩,⟨h.drop.drop.drop.drop.drop,(Ct.Je hN hkn (by rw[<- hnd];exact hd10) (by rw[<- hnd];exact hj')),by(try dsimp only);rw[uZ];omega,by(try dsimp only);omega⟩,by(try dsimp only);omega⟩
 have hg11:=cW hd4
 refine go h λw h=>?_
 exact rz ⟨rfl,(h.to.fr (.c r1 (.c r0 (.c r0 .n))))⟩
theorem vS(s:Ct.St)(zs:List (Ct.Node×Lq))(pn pc:Option Addr)(cn cc:Nat)(c:Int)(h:SH B w (aU 53 14 (.slice pn zs.length cn) zs.length (zs.flatMap cB)::aU 44 1 (.slice pc s.cells.length cc) s.cells.length (s.cells.map (Value.int .i64))::bE zs::L))(hzs:zs.map Prod.fst=aW s)(hr:s.size<=100000000000):
  Calls prog 61 #[.agg [.slice pn zs.length cn,.slice pc s.cells.length cc,↑(s.gen:Int)].toArray,↑c] w λe w'=>e=.returned (.int .i64 (s.load c).2)/\SH B w' (aU 53 14 (.slice pn zs.length cn) zs.length (zs.flatMap cB)::aU 44 1 (.slice pc s.cells.length cc) s.cells.length (s.cells.map (Value.int .i64))::bE zs::L):=by
 have hrm:s.aG.length+s.cells.length+s.gen+s.acc<=100000000000:=hr
 refine bZ func61 ntmps61 h λw h=>?_
 refine jX h λb1 w h=>?_
 refine qg h (λhd2 w h=>?_) λhd2 w h=>?_
 have hg3:=eC hd2
 refine go h λw h=>?_
 exact rz ⟨by rw[show (s.load c).2=0 from Bl (by omega)],h.drop⟩
 have hg4:=cW hd2
 refine go h λw h=>?_
 refine qc h (λhd5 w h=>?_) λhd5 w h=>?_
 have hg6:=eC hd5
 refine go h λw h=>?_
 exact rz ⟨by rw[show (s.load c).2=0 from Bl (by omega)],h.drop⟩
 have hg7:=cW hd5
 refine go h λw h=>?_
 obtain⟨j,hj⟩:∃j:Nat,c-1=(j:Int):=⟨(c-1).toNat,by omega⟩
 refine st (bs (j:Int))<|go h λw h=>?_
 obtain⟨b8,rfl⟩:=h.fp a2 (by omega)
 refine go h λw h=>?_
 exact rz ⟨by rw[show (s.load c).2=s.cells.getD j 0 from Wh hj (by omega)],h.drop⟩
theorem fK(s:Ct.St)(zs:List (Ct.Node×Lq))(pn pc:Option Addr)(cn cc:Nat)(r:Int)(h:SH B w (aU 53 14 (.slice pn zs.length cn) zs.length (zs.flatMap cB)::aU 44 1 (.slice pc s.cells.length cc) s.cells.length (s.cells.map (Value.int .i64))::bE zs::L))(hzs:zs.map Prod.fst=aW s)(hr:s.size<=100000000000):
  Calls prog 62 #[.agg [.slice pn zs.length cn,.slice pc s.cells.length cc,↑(s.gen:Int)].toArray,↑r] w λe w'=>∃q,e=.returned (.agg (aL (s.node r) q).toArray)/\SH B w' (aM (s.node r) q::aU 53 14 (.slice pn zs.length cn) zs.length (zs.flatMap cB)::aU 44 1 (.slice pc s.cells.length cc) s.cells.length (s.cells.map (Value.int .i64))::bE zs::L):=by
 have hz2:=iC hzs
 have hrm:s.aG.length+s.cells.length+s.gen+s.acc<=100000000000:=hr
 refine bZ func62 ntmps62 h λw h=>?_
 refine jX h λb1 w h=>?_
 refine jA h λb2 w h=>?_
 refine qg h (λhd3 w h=>?_) λhd3 w h=>?_
 have hg4:=eC hd3
 refine go h λw h=>?_
 refine rr (bP rfl rfl (h.b a0) Row.h) ?_
 rw[wV s r (by omega)];exact⟨{},rfl,SH.eE _ rfl rfl h.drop.drop⟩
 have hg5:=cW hd3
 refine go h λw h=>?_
 refine qc h (λhd6 w h=>?_) λhd6 w h=>?_
 have hg7:=eC hd6
 refine go h λw h=>?_
 refine rr (bP rfl rfl (h.b a0) Row.h) ?_
 rw[wV s r (by omega)];exact⟨{},rfl,SH.eE _ rfl rfl h.drop.drop⟩
 have hg8:=cW hd6
 refine go h λw h=>?_
 obtain⟨j,hj⟩:∃j:Nat,r-1=(j:Int):=⟨(r-1).toNat,by omega⟩
 refine st (bs (j:Int))<|go h λw h=>?_
 obtain⟨b9,rfl⟩:=h.fp a2 (by omega)
 refine go h λw h=>?_
 refine st (gJ rfl ((h.ro a2).x fN (by decide) (by omega) ({},{})) Row.h)<|go h λw h=>?_
 refine rr (bP rfl rfl (h.b a0) Row.h) ?_
 obtain⟨hm,hn⟩:=FX hzs hj (by omega)
 have h:=h.Ll a4 hm
 rw[<- hn];exact⟨_,rfl,(h.fr (.c r1 (.c r1 .n))).drop.drop⟩
theorem KF(s:Ct.St)(zs:List (Ct.Node×Lq))(pn pc:Option Addr)(cn cc:Nat)(t:Ct.bC)(h:SH B w (aU 53 14 (.slice pn zs.length cn) zs.length (zs.flatMap cB)::aU 44 1 (.slice pc s.cells.length cc) s.cells.length (s.cells.map (Value.int .i64))::bE zs::L))(hzs:zs.map Prod.fst=aW s)(hr:s.size<=100000000000):
  Calls prog 50 #[.agg [.slice pn zs.length cn,.slice pc s.cells.length cc,↑(s.gen:Int)].toArray,.agg [↑t.root,↑t.readOnly].toArray] w λe w'=>e=.returned (.tuple #[.int .i64 (Ct.rootOf s t).1,.bool (Ct.rootOf s t).2])/\SH B w' (aU 53 14 (.slice pn zs.length cn) zs.length (zs.flatMap cB)::aU 44 1 (.slice pc s.cells.length cc) s.cells.length (s.cells.map (Value.int .i64))::bE zs::L):=by
 refine bZ func50 ntmps50 h λw h=>?_
 refine jX h λb1 w h=>?_
 refine jX h λb2 w h=>?_
 refine bA (vS _ _ _ _ _ _ _ h.to hzs hr) λw h=>?_
 refine cG (fK _ _ _ _ _ _ _ h.to hzs hr) λq3 w h=>?_
 refine jA h λb4 w h=>?_
 refine qc h (λhd5 w h=>?_) λhd5 w h=>?_
 refine bA (vS _ _ _ _ _ _ _ h.to hzs hr) λw h=>?_
 refine qc h (λhd7 w h=>?_) λhd7 w h=>?_
 refine cG (fK _ _ _ _ _ _ _ h.to hzs hr) λq9 w h=>?_
 refine qc h (λhd10 w h=>?_) λhd10 w h=>?_
 refine rr (gE rfl rfl rfl) ?_
 refine⟨?_,h.to⟩
 have hx:Ct.rootOf s t=(0,false):=by unfold Ct.rootOf Ct.Dw;simp only[hd5,hd7,hd10,xM,pJ,zT,Bool.not_false]
 rw[hx]
 refine rr (gE rfl rfl rfl) ?_
 refine⟨?_,h.to⟩
 have hx:Ct.rootOf s t=((s.node (s.load t.root).2).new,true):=by unfold Ct.rootOf Ct.Dw;simp only[hd5,hd7,hd10,xM,pJ,zT,Bool.not_false]
 rw[hx]
 refine cG (fK _ _ _ _ _ _ _ h.to hzs hr) λq14 w h=>?_
 refine qc h (λhd15 w h=>?_) λhd15 w h=>?_
 refine rr (gE rfl rfl rfl) ?_
 refine⟨?_,h.to⟩
 have hx:Ct.rootOf s t=(0,false):=by unfold Ct.rootOf Ct.Dw;simp only[hd5,hd7,hd15,xM,pJ,zT,Bool.not_false]
 rw[hx]
 refine rr (gE rfl rfl rfl) ?_
 refine⟨?_,h.to⟩
 have hx:Ct.rootOf s t=((s.node (s.load t.root).2).dC,true):=by unfold Ct.rootOf Ct.Dw;simp only[hd5,hd7,hd15,xM,pJ,zT,Bool.not_false]
 rw[hx]
 refine cG (fK _ _ _ _ _ _ _ h.to hzs hr) λq19 w h=>?_
 refine qc h (λhd20 w h=>?_) λhd20 w h=>?_
 refine rr (gE rfl rfl rfl) ?_
 refine⟨?_,h.to⟩
 have hx:Ct.rootOf s t=(0,false):=by unfold Ct.rootOf Ct.Dw;simp only[hd5,hd20,xM,pJ,zT,Bool.not_false]
 rw[hx]
 refine rr (gE rfl rfl rfl) ?_
 refine⟨?_,h.to⟩
 have hx:Ct.rootOf s t=((s.load t.root).2,true):=by unfold Ct.rootOf Ct.Dw;simp only[hd5,hd20,xM,pJ,zT,Bool.not_false]
 rw[hx]
theorem JJ(s:Ct.St)(zs:List (Ct.Node×Lq))(pn pc:Option Addr)(cn cc:Nat)(t:Ct.bC)(h:SH B w (aU 53 14 (.slice pn zs.length cn) zs.length (zs.flatMap cB)::aU 44 1 (.slice pc s.cells.length cc) s.cells.length (s.cells.map (Value.int .i64))::bE zs::L))(hzs:zs.map Prod.fst=aW s)(hr:s.size<=100000000000)(hp:Ct.iV s)(hf:∀n∈aW s,n.aA.length<=1000000/\n.aF.length<=200000000000/\n.aD<18446744073709551616):
  Calls prog 12 #[.agg [.slice pn zs.length cn,.slice pc s.cells.length cc,↑(s.gen:Int)].toArray,.agg [↑t.root,↑t.readOnly].toArray] w λe w'=>e=.returned (.tuple #[.int .i64 (Ct.rootOf s t).1,.bool (Ct.rootOf s t).2])/\SH B w' (aU 53 14 (.slice pn zs.length cn) zs.length (zs.flatMap cB)::aU 44 1 (.slice pc s.cells.length cc) s.cells.length (s.cells.map (Value.int .i64))::bE zs::L):=by
 have hz2:=iC hzs
 have hrm:s.aG.length+s.cells.length+s.gen+s.acc<=100000000000:=hr
 refine bZ func12 ntmps12 h λw h=>?_
 refine jX h λb1 w h=>?_
 refine jX h λb2 w h=>?_
 refine bA (Zm _ _ _ _ _ _ h.to hzs hp hf hr) λw h=>?_
 refine bA (KF _ _ _ _ _ _ _ h.to hzs hr) λw h=>?_
 exact rr (gE rfl rfl rfl)<|⟨rfl,h.to⟩
section
attribute [local semireducible] gB wpS Go.E.X XS C jU kP fin Y U F Ca jT bl rb aU bV ex ce pu sK gK bK zK gM fO dH gP nE
attribute [local irreducible] gB wpS
end
end Go.Q9
end
section
namespace Go.E
open Go.RowKit
variable{B w:World}{L:List As}{P:Program}{n:Nat}{K:iG}{e:Tm}{ops:Array Oper}{l:List Oper}
variable{d:Option Tmp}{ty:TypeId}{ps:String}{af:Array Edge}
theorem lE(v:Fv):v.val.cells=[v.val].toArray:=by cases v<;>rfl
theorem PM{x:Operand}{v:Fv}{az:Array Operand}{ats:Array TypeId}{vs:List Value}(hx:ev n e x=some v.val)(ha:pU n e az.toList=some vs)
  (k:jK P v vs w λy w'=>∃u,y=.returned u/\X P n ops l K (Tm.put e d u) w'):X P n ops (⟨d,.call ⟨.value x,az,ats⟩,ty,ps,af,none⟩::l) K e w:=by
 obtain⟨f,ff,fc,rfl,en,hc⟩:=k
 exact cl (cv_ en hx ha) hc
end Go.E
namespace Go.Q9
open Go.Proofs.Tryz
open Go.RowKit Go.E
variable{B w w':World}{L:List As}{α β:Type}{S:dN}{F:β->Cc->As}{n m j:Nat}{args:α->List Value}{k:α->Ct.I β}{v:Fv}{s:Ct.St}
theorem ncM{n:Nat}{e:Tm}{d:Option Tmp}{ty:TypeId}{ps:String}{af:Array Edge}{g:Option (Nat×Bool)}{x:Operand}{name:String}{t:TypeId}{u:Value}{c:Array Value}(hx:ev n e x=some (.func (.method name) #[.iface t u] c))(hn:(nilAhead 383 t u name).run prog w=.ok (some false) w):
  Y prog n e ⟨d,.nilCheck x,ty,ps,af,g⟩ w (.func (.method name) #[.iface t u] c) w:=λa ha=>by
 have hf:prog.types.size+Made.depth=383:=by kernel_rfl
 simp only[execOp,ha.eval hx]
 simp only[List.size_toArray,QR,List.length_nil,xE,Nat.lt_add_one,getElem?_pos,List.getElem_toArray,List.getElem_cons_zero,Sem.run_bind,run_program,Result.andThen_ok]
 rw[hf,hn]
 rfl
def qI(_:Unit):List Value:=[]
def Fu(p:Int×Int):List Value:=[↑p.1,↑p.2]
theorem eR{i:Nat}(hm:m<=n)(hj:i<=j)(h:SH B w (gP S F n i args k v::L)):SH B w (gP S F m j args k v::L):=h.imp λO R=>By (yG hm) λ_ h=>h.less hj
theorem mA(h:SH B w (gP S F n j args k v::S.a s::L))(hs:Ct.Rm j s)(a:α):jK prog v (args a) w (CP S F n B (k a) s L):=SH.QU h hs a
theorem YZ(l:List As)(h:SH B w (l++L))(hc:∀(B w:World) (L:List As) (s:Ct.St) (a:α),SH B w (l++S.a s::L)->Ct.Rm j s->jK prog v (args a) w (CP S F n B (k a) s L)):SH B w (gP S F n j args k v::L):=SH.H8 l h hc
theorem Nt(l:List As)(h:SH B w (l++L))(hc:∀m,m<n->∀(B w:World) (L:List As) (s:Ct.St) (a:α),SH B w (l++S.a s::L)->Ct.Rm 100 s->jK prog v (args a) w (CP S F m B (k a) s L)):SH B w (VW prog S.a (Ct.Rm 100) F args k v n::L):=SH.J9 l h hc
def rD{α β:Type}(S:dN)(F:β->Cc->As):Nat->Nat->(α->List Value)->(α->Ct.I β)->Fv->As
 |0,_,_,_,_=>MT
 |n+1,j,args,k,v=>gP S F n j args k v
theorem Me(l:List As)(h:SH B w (l++L))(hc:∀m,m<n->∀(B w:World) (L:List As) (s:Ct.St) (a:α),SH B w (l++S.a s::L)->Ct.Rm j s->jK prog v (args a) w (CP S F m B (k a) s L)):SH B w (rD S F n j args k v::L):=by
 cases n with
 |zero=>exact(SH.is h).imp λ_ _ h=>Be h
 |succ m=>exact YZ l h (hc m (Nat.lt_succ_self m))
theorem sB(hm:m<n)(h:SH B w (rD S F n j args k v::L)):SH B w (gP S F m j args k v::L):=by
 cases n with
 |zero=>omega
 |succ n=>exact eR (Nat.le_of_lt_succ hm) (JV _) h
theorem Rj{i:Nat}(hj:i<=j)(h:SH B w (gP S F n i args k v::L)):SH B w (rD S F n j args k v::L):=by
 cases n with
 |zero=>exact h.imp λ_ _ h=>Be h
 |succ m=>exact eR (Nat.le_succ m) hj h
theorem k7(hj:j<=100)(h:SH B w (rD S F n j args k v::L)):SH B w (VW prog S.a (Ct.Rm 100) F args k v n::L):=by
 cases n with
 |zero=>exact h
 |succ m=>exact eR (JV m) hj h
theorem kL{a:Int}{k:Int->Ct.I β}(h:SH B w (VW prog S.a (Ct.Rm 100) F dQ k v n::L)):SH B w (nE S F n (.load a k) (tR a v)::L):=SH.K7 h
theorem kC{a o x:Int}{k:Bool->Ct.I β}(h:SH B w (VW prog S.a (Ct.Rm 100) F dV k v n::L)):SH B w (nE S F n (.eA a o x k) (Fp a o x v)::L):=SH.N6 h
theorem fI{t t':Ct.I β}{s':Ct.St}{c:Cc}(hq:t.head s=(s',t'))(h:SH B w' (nE S F n t' c::S.a s'::L)):CP S F n B t s L (.returned (.agg (zQ c).toArray)) w':=⟨s',t',c,hq,rfl,h⟩
def dW(r:Ct.Result)(c:Cc):As:=pu (c=EY r)
theorem kD{r:Ct.Result}(h:SH B w L):SH B w (nE S dW n (.ret r) (EY r)::L):=SH.B0 (SH.ip rfl h)
theorem cK(S:dN)(s:Ct.St)(r:Int)(h:SH B w (S.a s::L))(hs:Ct.Rm j s):
  Calls prog 48 #[↑S.ab,↑r] w λe w'=>∃q,e=.returned (.agg (aL (s.node r) q).toArray)/\SH B w' (aM (s.node r) q::S.a s::L):=by
 refine(Ey S.ab s r h.so hs.zP hs.fit).mono ?_
 rintro e w' ⟨q,rfl,h⟩
 exact⟨q,rfl,(SH.si (h.fr (.c r1 (.c r1 .n)))).fr (.c r1 .n)⟩
theorem cQ(S:dN)(s:Ct.St)(n:Ct.Node)(q:Lq)(i:Int)(h:SH B w (aM n q::S.a s::L))(hs:Ct.Rm j s)(hf:n.Fit (s.aG.length+1)):
  Calls prog 319 #[↑S.ab,.agg (aL n q).toArray,↑i] w λe w'=>e=.returned (.int .i64 (s.alloc n i).2)/\SH B w' (S.a (s.alloc n i).1::L):=by
 have hb:=zS hf (by have:=hs.zP;unfold Ct.St.size at this;omega)
 refine(CE S.ab s n q i ((SH.so (h.fr (.c r1 .n))).fr (.c r2 (.c r0 .n))) hs.zP hb.1 hb.2).mono ?_
 rintro e w' ⟨rfl,h⟩
 exact⟨rfl,SH.si h⟩
theorem zU(S:dN)(s:Ct.St)(i:Int)(h:SH B w (S.a s::L))(hs:Ct.Rm j s):
  Calls prog 322 #[↑S.ab,↑i] w λe w'=>e=.returned (.int .i64 (s.aV i).2)/\SH B w' (S.a (s.aV i).1::L):=by
 refine(tK S.ab s i h.so hs.zP).mono ?_
 rintro e w' ⟨rfl,h⟩
 exact⟨rfl,SH.si h⟩
theorem Um(S:dN)(s:Ct.St)(h:SH B w (S.a s::L))(hs:Ct.Rm j s):
  Calls prog 323 #[↑S.ab] w λe w'=>e=.returned ↑s.bS.2/\SH B w' (S.a s.bS.1::L):=by
 refine(Ym S.ab s h.so hs.zP).mono ?_
 rintro e w' ⟨rfl,h⟩
 exact⟨rfl,SH.si h⟩
theorem JQ(S:dN)(s:Ct.St)(c:Int)(h:SH B w (S.a s::L))(hs:Ct.Rm j s):
  Calls prog 321 #[↑S.ab,↑c] w λe w'=>e=.returned (.int .i64 (s.load c).2)/\SH B w' (S.a (s.load c).1::L):=by
 refine(IT S.ab s c h.so hs.zP).mono ?_
 rintro e w' ⟨rfl,h⟩
 exact⟨rfl,SH.si h⟩
theorem NE(S:dN)(s:Ct.St)(c o n:Int)(h:SH B w (S.a s::L))(hs:Ct.Rm j s):
  Calls prog 320 #[↑S.ab,↑c,↑o,↑n] w λe w'=>e=.returned (.bool (s.eA c o n).2)/\SH B w' (S.a (s.eA c o n).1::L):=by
 refine(PR S.ab s c o n h.so hs.zP).mono ?_
 rintro e w' ⟨rfl,h⟩
 exact⟨rfl,SH.si h⟩
theorem SY{s:Ct.St}(h:Ct.Rm (j+1) s)(c:Int):Ct.Rm j (s.load c).1:=⟨h.fit,by have:=h.room;have:=(Ct.St.Cp s c).1;omega⟩
theorem YS{s:Ct.St}(h:Ct.Rm (j+1) s)(c o n:Int):Ct.Rm j (s.eA c o n).1:=⟨(by unfold Ct.eK;rw[(Ct.St.Bu s c o n).2];exact h.fit),by have:=h.room;have:=(Ct.St.Bu s c o n).1;omega⟩
end Go.Q9
end
