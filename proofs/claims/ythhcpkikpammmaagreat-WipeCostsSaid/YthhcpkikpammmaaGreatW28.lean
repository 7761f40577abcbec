/- Parts of a proof: Vw. -/
import Derived.Test.YthhcpkikpammmaaGreatW27
set_option linter.unusedVariables false
set_option linter.unusedSimpArgs false
set_option maxRecDepth 100000
set_option maxHeartbeats 4000000
section
namespace Go.Q9
open Go.Proofs.Tryz
open Go.RowKit Go.E
attribute [local irreducible] gB wpS Go.E.X XS C jU kP fin Y U F Ca jT bl rb aU bV ex ce pu sK gK bK zK gM fO dH gP nE
theorem sI{s:Ct.St}{n:Ct.Node}(hp:Ct.iV s)(hm:n∈aW s)(hc:n.cA=true):n.cellOf=n.gZ:=by
 unfold aW at hm
 rcases List.mem_cons.1 hm with rfl|hm
 ·rw[Ct.Bx]at hc;cases hc
 ·rcases List.mem_cons.1 hm with rfl|hm
  ·rw[Ct.Bx]at hc;cases hc
  ·exact(hp.gZ hm hc).symm
theorem PT{n:Ct.Node}(h:n.valid=true):0<=n.main/\0<=n.prev/\0<=n.status:=by
 have:=Ct.fJ h;exact⟨this.main,this.prev,this.status⟩
theorem HF(m j:Nat):(List.replicate m false).getD j false=false:=by
 rw[Xe,List.getElem?_replicate];split<;>rfl
theorem Mr{s:Ct.St}{m:Int}{k:Nat}(hk:k<(s.node m).aA.length):((Ct.dJ s m).take k).flatMap aR++[.string (s.node ((s.node m).aA.getD k 0)).key,.int .u64 (((s.node ((s.node m).aA.getD k 0)).value:Nat):Int)]=((Ct.dJ s m).take (k+1)).flatMap aR:=by
 have hl:k<(Ct.dJ s m).length:=by unfold Ct.dJ;rw[zE];exact hk
 rw[<- wL (d:=⟨.empty,0⟩) hl,Ik]
 have e:(Ct.dJ s m).getD k ⟨.empty,0⟩=⟨(s.node ((s.node m).aA.getD k 0)).key,(s.node ((s.node m).aA.getD k 0)).value⟩:=by
  unfold Ct.dJ
  rw[Xe,dI,DI hk,Xe,DI hk];rfl
 rw[e];rfl
theorem SZ{s:Ct.St}{n:Ct.Node}(hp:Ct.iV s)(hm:n∈aW s)(h0:0<=n.main/\0<=n.prev/\0<=n.status)(hc:n.cA=true)(hr:s.aG.length+s.cells.length+s.gen+s.acc<=100000000000):n.main+n.prev+n.status<=1000000000000:=by
 have h1:=(hp.all n hm).lo hc
 have h2:=sI hp hm hc
 unfold Ct.Node.cellOf at h2
 omega
variable{B w:World}{L:List As}
theorem Vi(n:Nat)(l:List Int)(p:Option Addr)(c:Nat)(h:SH B w (aU 36 1 (.slice p l.length c) l.length (l.map (Value.int .i64))::L))(hr:∀r∈l,0<=r/\r<=(n:Int))(hl:l.length<=1000000000000):
  Calls prog 87 #[↑(n:Int),.slice p l.length c] w λe w'=>e=.returned ↑true/\SH B w' (aU 36 1 (.slice p l.length c) l.length (l.map (Value.int .i64))::L):=by
 refine bZ func87 ntmps87 h λw h=>?_
 refine lp (α:=Nat) (λρ=>(.c 0 ↑(n:Int) (.c 1 (.slice p l.length c) (.c 5 (.int .i64 (ρ:Int)) .n)))) (λρ w=>SH B w (aU 36 1 (.slice p l.length c) l.length (l.map (Value.int .i64))::L)/\(ρ<=l.length)) (λρ=>l.length-ρ) 0 ⟨rfl,rfl,rfl,trivial⟩ ⟨h,Hg _⟩ ?_
 rintro k w ⟨h,hk⟩
 refine go h λw h=>?_
 refine qc h (λhd1 w h=>?_) λhd1 w h=>?_
 have hg2:=bI hd1
 refine go h λw h=>?_
 obtain⟨b3,rfl⟩:=h.fp a0 (by omega)
 refine go h λw h=>?_
 refine gT rfl rfl (Ft (by have:=hr _ (fC (i:=k) (l:=l) (d:=0) (by omega));omega))<|go h λw h=>?_
 refine gT rfl rfl (Ft (by have:=hr _ (fC (i:=k) (l:=l) (d:=0) (by omega));omega))<|go h λw h=>?_
 refine gT rfl rfl (Ft (by have:=hr _ (fC (i:=k) (l:=l) (d:=0) (by omega));omega))<|go h λw h=>?_
 refine gT rfl rfl (Ft (by have:=hr _ (fC (i:=k) (l:=l) (d:=0) (by omega));omega))<|go h λw h=>?_
 refine gT rfl rfl (Ft (by have:=hr _ (fC (i:=k) (l:=l) (d:=0) (by omega));omega))<|go h λw h=>?_
 refine gT rfl rfl (Ft (by have:=hr _ (fC (i:=k) (l:=l) (d:=0) (by omega));omega))<|go h λw h=>?_
 refine st (pF rfl (Ft (by have:=hr _ (fC (i:=k) (l:=l) (d:=0) (by omega));omega)) rfl)<|go h λw h=>?_
 refine cf rfl (Ft (by have:=hr _ (fC (i:=k) (l:=l) (d:=0) (by omega));omega))<|go h λw h=>?_
 exact⟨(k+1),⟨rfl,rfl,rfl,trivial⟩,⟨h,by(try dsimp only);omega⟩,by(try dsimp only);omega⟩
 exact rz ⟨rfl,h⟩
theorem PK(n:Nat)(l:List Int)(p:Option Addr)(c:Nat)(h:SH B w (bV 1 (.slice p l.length c) l.length (l.map (Value.int .i64))::L))(hr:∀r∈l,0<=r/\r<=(n:Int))(hl:l.length<=1000000000000):
  Calls prog 87 #[↑(n:Int),.slice p l.length c] w λe w'=>e=.returned ↑true/\SH B w' (bV 1 (.slice p l.length c) l.length (l.map (Value.int .i64))::L):=by
 refine bZ func87 ntmps87 h λw h=>?_
 refine lp (α:=Nat) (λρ=>(.c 0 ↑(n:Int) (.c 1 (.slice p l.length c) (.c 5 (.int .i64 (ρ:Int)) .n)))) (λρ w=>SH B w (bV 1 (.slice p l.length c) l.length (l.map (Value.int .i64))::L)/\(ρ<=l.length)) (λρ=>l.length-ρ) 0 ⟨rfl,rfl,rfl,trivial⟩ ⟨h,Hg _⟩ ?_
 rintro k w ⟨h,hk⟩
 refine go h λw h=>?_
 refine qc h (λhd1 w h=>?_) λhd1 w h=>?_
 have hg2:=bI hd1
 refine go h λw h=>?_
 obtain⟨b3,o4,rfl⟩:=h.fq a0 (by omega)
 refine go h λw h=>?_
 refine gT rfl rfl (Ft (by have:=hr _ (fC (i:=k) (l:=l) (d:=0) (by omega));omega))<|go h λw h=>?_
 refine gT rfl rfl (Ft (by have:=hr _ (fC (i:=k) (l:=l) (d:=0) (by omega));omega))<|go h λw h=>?_
 refine gT rfl rfl (Ft (by have:=hr _ (fC (i:=k) (l:=l) (d:=0) (by omega));omega))<|go h λw h=>?_
 refine gT rfl rfl (Ft (by have:=hr _ (fC (i:=k) (l:=l) (d:=0) (by omega));omega))<|go h λw h=>?_
 refine gT rfl rfl (Ft (by have:=hr _ (fC (i:=k) (l:=l) (d:=0) (by omega));omega))<|go h λw h=>?_
 refine gT rfl rfl (Ft (by have:=hr _ (fC (i:=k) (l:=l) (d:=0) (by omega));omega))<|go h λw h=>?_
 refine st (pF rfl (Ft (by have:=hr _ (fC (i:=k) (l:=l) (d:=0) (by omega));omega)) rfl)<|go h λw h=>?_
 refine cf rfl (Ft (by have:=hr _ (fC (i:=k) (l:=l) (d:=0) (by omega));omega))<|go h λw h=>?_
 exact⟨(k+1),⟨rfl,rfl,rfl,trivial⟩,⟨h,by(try dsimp only);omega⟩,by(try dsimp only);omega⟩
 exact rz ⟨rfl,h⟩
theorem PX(n:Nat)(a b c:Int)(p:Option Addr)(h:SH B w (aU 36 1 (.slice p 3 3) 3 [↑a,↑b,↑c]::L))(ha:0<=a/\a<=(n:Int))(hb:0<=b/\b<=(n:Int))(hc:0<=c/\c<=(n:Int)):
  Calls prog 87 #[↑(n:Int),.slice p 3 3] w λe w'=>e=.returned ↑true/\SH B w' (aU 36 1 (.slice p 3 3) 3 [↑a,↑b,↑c]::L):=
 Vi n [a,b,c] p 3 h (λr m=>by simp at m;rcases m with rfl|rfl|rfl<;>assumption) (by simp)
theorem BK(k:Int)(h:SH B w (L)):
  Calls prog 89 #[↑k] w λe w'=>e=.returned (.bool (Ct.Vo k))/\SH B w' L:=by
 refine bZ func89 ntmps89 h λw h=>?_
 refine qg h (λhd1 w h=>?_) λhd1 w h=>?_
 have hg2:=eq_of_beq hd1
 refine go h λw h=>?_
 refine rz ?_
 refine⟨?_,h⟩
 unfold Ct.Vo;rw[hd1];rfl
 have hg3:=AD hd1
 refine go h λw h=>?_
 refine qg h (λhd4 w h=>?_) λhd4 w h=>?_
 have hg5:=eq_of_beq hd4
 refine go h λw h=>?_
 refine rz ?_
 refine⟨?_,h⟩
 unfold Ct.Vo;rw[hd1,hd4];rfl
 have hg6:=AD hd4
 refine go h λw h=>?_
 refine qg h (λhd7 w h=>?_) λhd7 w h=>?_
 have hg8:=eq_of_beq hd7
 refine go h λw h=>?_
 refine rz ?_
 refine⟨?_,h⟩
 unfold Ct.Vo;rw[hd1,hd4,hd7];rfl
 have hg9:=AD hd7
 refine go h λw h=>?_
 refine qg h (λhd10 w h=>?_) λhd10 w h=>?_
 have hg11:=eq_of_beq hd10
 refine go h λw h=>?_
 refine rz ?_
 refine⟨?_,h⟩
 unfold Ct.Vo;rw[hd1,hd4,hd7,hd10];rfl
 have hg12:=AD hd10
 refine go h λw h=>?_
 refine rz ?_
 refine⟨?_,h⟩
 unfold Ct.Vo;rw[hd1,hd4,hd7,hd10];rfl
theorem Ww(n:Ct.Node)(q:Lq)(h:SH B w (L))(h0:0<=n.main/\0<=n.prev/\0<=n.status)(h1:n.main+n.prev+n.status<=1000000000000):
  Calls prog 90 #[.agg (aL n q).toArray] w λe w'=>e=.returned ↑n.cellOf/\SH B w' L:=by
 refine bZ func90 ntmps90 h λw h=>?_
 refine jX h λb1 w h=>?_
 refine st (ba (n.main+n.prev))<|go h λw h=>?_
 refine st (ba (n.main+n.prev+n.status))<|go h λw h=>?_
 exact rz ⟨rfl,h.drop⟩
theorem IU(n:Ct.Node)(q:Lq)(h:SH B w (aM n q::L))(hv:n.valid=true)(hb:n.aA.length<=1000000)(hp:n.aF.length<=1000000000000)(hm:n.aD<18446744073709551616):
  Calls prog 88 #[.agg (aL n q).toArray] w λe w'=>e=.returned ↑true/\SH B w' (aM n q::L):=yW n q.pb q.cb q.pp q.cp h hv hb hp hm
theorem LU(n:Ct.Node)(h:SH B w L):Calls prog 89 #[↑n.kind] w λe w'=>e=.returned ↑n.cA/\SH B w' L:=by
 rw[<- Ct.SK];exact BK n.kind h
theorem Zm(s:Ct.St)(zs:List (Ct.Node×Lq))(pn pc:Option Addr)(cn cc:Nat)(h:SH B w (aU 68 14 (.slice pn zs.length cn) zs.length (zs.flatMap cB)::aU 36 1 (.slice pc s.cells.length cc) s.cells.length (s.cells.map (Value.int .i64))::bE zs::L))(hzs:zs.map Prod.fst=aW s)(hp:Ct.iV s)(hf:∀n∈aW s,n.aA.length<=1000000/\n.aF.length<=200000000000/\n.aD<18446744073709551616)(hr:s.size<=100000000000):
  Calls prog 54 #[.agg [.slice pn zs.length cn,.slice pc s.cells.length cc,↑(s.gen:Int)].toArray] w λe w'=>e=.returned ↑true/\SH B w' (aU 68 14 (.slice pn zs.length cn) zs.length (zs.flatMap cB)::aU 36 1 (.slice pc s.cells.length cc) s.cells.length (s.cells.map (Value.int .i64))::bE zs::L):=by
 have hz2:=iC hzs
 have hrm:s.aG.length+s.cells.length+s.gen+s.acc<=100000000000:=hr
 have hsort:((aW s).filter Ct.Node.cA).Pairwise _:=hp.kG
 obtain⟨hk0,hk1⟩:=Wb hzs
 refine bZ func54 ntmps54 h λw h=>?_
 refine jX h λb1 w h=>?_
 obtain⟨b2,rfl⟩:=h.fp a1 (by omega)
 refine go h λw h=>?_
 refine st (ld One.h rfl ((h.ro a1).x fN (by decide) (j:=0) (by omega) ({},{}) 0 _ rfl))<|go h λw h=>?_
 refine gT rfl rfl (oE (by omega))<|go h λw h=>?_
 refine gT rfl rfl (oE (by omega))<|go h λw h=>?_
 refine gT rfl rfl (oE (by omega))<|go h λw h=>?_
 refine gT rfl rfl (oE (by omega))<|go h λw h=>?_
 refine gT rfl rfl (oE (by omega))<|st (ld One.h rfl ((h.ro a1).x fN (by decide) (j:=1) (by omega) ({},{}) 0 _ rfl))<|gT rfl rfl (oE (by omega))<|go h λw h=>?_
 refine st (pF rfl (oE (by omega)) rfl)<|go h λw h=>?_
 refine gT rfl rfl (oE (by omega))<|go h λw h=>?_
 refine gT rfl rfl (oE (by omega))<|go h λw h=>?_
 refine gT rfl rfl (oE (by omega))<|go h λw h=>?_
 refine st (pF rfl (oE (by omega)) rfl)<|go h λw h=>?_
 refine bA (Vi _ _ _ _ h.to (by rw[hz2];exact hp.cells) (by omega)) λw h=>?_
 refine sf (mk h fR.h Ss.h rfl rfl (by omega) (by unfold maxLen;omega)) ?_
 rintro _ w ⟨b3,rfl,h⟩
 refine go h λw h=>?_
 rw[rV oN (by decide) (d:=false) rfl]at h
 refine go h λw h=>?_
 refine lp (α:=Nat×List Bool) (λρ=>(.c 1 ↑b1 (.c 3 ↑(zs.length:Int) (.c 4 (.slice (some ⟨b3,0,none⟩) s.cells.length s.cells.length) (.c 5 (.int .i64 (ρ.1:Int)) .n))))) (λρ w=>SH B w (aU 4 1 (.slice (some ⟨b3,0,none⟩) s.cells.length s.cells.length) s.cells.length (ρ.2.flatMap RP)::aU 36 1 (.slice pc s.cells.length cc) s.cells.length (s.cells.map (Value.int .i64))::bl b1 ([.slice (some ⟨b2,0,none⟩) zs.length cn,.slice pc s.cells.length cc,↑(s.gen:Int)]) 53::aU 68 14 (.slice (some ⟨b2,0,none⟩) zs.length cn) zs.length (zs.flatMap cB)::bE zs::L)/\(Ct.Eu (aW s) ρ.1 ρ.2)/\(ρ.2.length=s.cells.length)/\(ρ.1<=zs.length)) (λρ=>zs.length-ρ.1) (0,List.replicate s.cells.length false) ⟨rfl,rfl,rfl,rfl,trivial⟩ ⟨h,(Ct.Hf _ _),(zT ..),(Hg _)⟩ ?_
 rintro⟨k,bs⟩ w ⟨h,hN,hbs,hk⟩
 dsimp only at *
 refine go h λw h=>?_
 refine qc h (λhd4 w h=>?_) λhd4 w h=>?_
 have hg5:=bI hd4
 refine go h λw h=>?_
 refine st (gJ rfl ((h.ro a3).x fN (by decide) (by omega) ({},{})) Row.h)<|go h λw h=>?_
 refine jA h λb6 w h=>?_
 obtain⟨hm,hkn,hnd⟩:=pP hzs (k:=k) (by omega)
 have hpn:=hp.all _ hm.2
 have hfn:=hf _ hm.2
 have hfb:=hfn.1
 have hfp:=hfn.2.1
 have hfm:=hfn.2.2
 have h:=h.Ll a5 hm.1
 have hnn:=PT hpn.valid
 have h:=h.Gs a0
 have h:=SH.se (l:=[aY (zs.getD k ({},{})).1 (zs.getD k ({},{})).2,cH (zs.getD k ({},{})).1 (zs.getD k ({},{})).2]) h
 refine go h λw h=>?_
 refine bA (IU _ _ h.to hpn.valid (by omega) (by omega) (by omega)) λw h=>?_
 refine gT rfl rfl (Ft (by have:=hpn.gen;omega))<|go h λw h=>?_
 refine gT rfl rfl (Ft (by have:=hpn.gen;omega))<|go h λw h=>?_
 refine gT rfl rfl (Ft (by have:=hpn.gen;omega))<|go h λw h=>?_
 refine gT rfl rfl (Ft (by have:=hpn.gen;omega))<|go h λw h=>?_
 refine bA (PK _ _ _ _ h.to (by rw[hz2];exact hpn.br) (by omega)) λw h=>?_
 refine gT rfl rfl (Ft (by have:=hpn.gen;omega))<|go h λw h=>?_
 refine st (pF rfl (Ft (by have:=hpn.gen;omega)) rfl)<|go h λw h=>?_
 refine sf (bu [.int .i64 (zs.getD k ({},{})).1.dC,.int .i64 (zs.getD k ({},{})).1.aK,.int .i64 (zs.getD k ({},{})).1.new] h fR.h Ss.h rfl (by kernel_rfl) rfl (by decide) (by decide)) ?_
 rintro _ w ⟨b7,rfl,h⟩
 refine go h λw h=>?_
 refine bA (PX _ _ _ _ _ h.to (by have:=hpn.dC;have:=hpn.ex;have:=hpn.nw;omega) (by have:=hpn.dC;have:=hpn.ex;have:=hpn.nw;omega) (by have:=hpn.dC;have:=hpn.ex;have:=hpn.nw;omega)) λw h=>?_
 refine bA (LU _ h.to) λw h=>?_
 refine qc h (λhd8 w h=>?_) λhd8 w h=>?_
 have hd9:=(pJ _).mp hd8
 refine go h λw h=>?_
 exact⟨(k+1,bs),⟨rfl,rfl,rfl,rfl,trivial⟩,⟨h.drop.drop.drop.drop.drop,(Ct.yI hN),by(try dsimp only);omega,by(try dsimp only);omega⟩,by(try dsimp only);omega⟩
 have hd10:=(Co _).mp hd8
 refine go h λw h=>?_
 refine bA (Ww _ _ h.to hnn (SZ hp hm.2 hnn hd10 hrm)) λw h=>?_
 refine gT rfl rfl (Ft (by have:=hpn.lo hd10;have:=sI hp hm.2 hd10;omega))<|go h λw h=>?_
 refine gT rfl rfl (Ft (by have:=hpn.lo hd10;have:=sI hp hm.2 hd10;omega))<|go h λw h=>?_
 refine gT rfl rfl (Ft (by have:=hpn.lo hd10;have:=sI hp hm.2 hd10;omega))<|go h λw h=>?_
 refine gT rfl rfl (Ft (by have:=hpn.lo hd10;have:=sI hp hm.2 hd10;omega))<|go h λw h=>?_
 refine gT rfl rfl (Ft (by have:=hpn.lo hd10;have:=sI hp hm.2 hd10;omega))<|go h λw h=>?_
 refine st (pF rfl (Ft (by have:=hpn.lo hd10;have:=sI hp hm.2 hd10;omega)) rfl)<|go h λw h=>?_
 refine gT rfl rfl (Ft (by have:=hpn.lo hd10;have:=sI hp hm.2 hd10;omega))<|go h λw h=>?_
 refine gT rfl rfl (Ft (by have:=hpn.lo hd10;have:=sI hp hm.2 hd10;omega))<|go h λw h=>?_
 refine gT rfl rfl (Ft (by have:=hpn.lo hd10;have:=sI hp hm.2 hd10;omega))<|go h λw h=>?_
 have hcp:=sI hp hm.2 hd10
 obtain⟨j,hj⟩:∃j:Nat,(zs.getD k ({},{})).1.cellOf -1=(j:Int):=⟨((zs.getD k ({},{})).1.cellOf -1).toNat,by have:=hpn.lo hd10;omega⟩
 have hjl:j<s.cells.length:=by have:=hpn.lo hd10;omega
 have hj':(zs.getD k ({},{})).1.gZ -1=(j:Int):=by rw[<- hcp];exact hj
 refine st (bw rfl rfl (zW (c:=(j:Int)) (by omega) (by omega) (by omega)))<|gT rfl rfl (Ft (by have:=hpn.lo hd10;have:=sI hp hm.2 hd10;omega))<|?_
 refine st (ix (j:=j) Ey AU rfl rfl (by omega))<|?_
 refine go h λw h=>?_
 refine st (ld One.h rfl ((h.ro a5).x oN (by decide) (by omega) false 0 _ rfl))<|st (pF rfl (Ft (by have:=hpn.lo hd10;have:=sI hp hm.2 hd10;omega)) rfl)<|go h λw h=>?_
 refine cf rfl (Ct.Vy hsort hN hkn (by rw[<- hnd];exact hd10) (by rw[<- hnd];exact hj'))<|go h λw h=>?_
 refine st (bw rfl rfl (zW (c:=(j:Int)) (by omega) (by omega) (by omega)))<|?_
 refine st (ix (j:=j) Ey AU rfl rfl (by omega))<|?_
 refine go h λw h=>?_
 refine sf (ZB (enc:=RP) (a:=true) h Sz.h oN Qh rfl rfl rfl (by omega) (by omega) u5) ?_
 rintro _ w h
 refine go h λw h=>?_
 exact⟨(k+1,bs.set j true),⟨rfl,rfl,rfl,rfl,trivial⟩,⟨h.drop.drop.drop.drop.drop,(Ct.Je hN hkn (by rw[<- hnd];exact hd10) (by rw[<- hnd];exact hj')),by(try dsimp only);rw[yM];omega,by(try dsimp only);omega⟩,by(try dsimp only);omega⟩
 have hg11:=mD hd4
 refine go h λw h=>?_
 exact rz ⟨rfl,(h.to.fr (.c r1 (.c r0 (.c r0 .n))))⟩
theorem vS(s:Ct.St)(zs:List (Ct.Node×Lq))(pn pc:Option Addr)(cn cc:Nat)(c:Int)(h:SH B w (aU 68 14 (.slice pn zs.length cn) zs.length (zs.flatMap cB)::aU 36 1 (.slice pc s.cells.length cc) s.cells.length (s.cells.map (Value.int .i64))::bE zs::L))(hzs:zs.map Prod.fst=aW s)(hr:s.size<=100000000000):
  Calls prog 34 #[.agg [.slice pn zs.length cn,.slice pc s.cells.length cc,↑(s.gen:Int)].toArray,↑c] w λe w'=>e=.returned (.int .i64 (s.load c).2)/\SH B w' (aU 68 14 (.slice pn zs.length cn) zs.length (zs.flatMap cB)::aU 36 1 (.slice pc s.cells.length cc) s.cells.length (s.cells.map (Value.int .i64))::bE zs::L):=by
 have hrm:s.aG.length+s.cells.length+s.gen+s.acc<=100000000000:=hr
 refine bZ func34 ntmps34 h λw h=>?_
 refine jX h λb1 w h=>?_
 refine qg h (λhd2 w h=>?_) λhd2 w h=>?_
 have hg3:=bI hd2
 refine go h λw h=>?_
 exact rz ⟨by rw[show (s.load c).2=0 from Bl (by omega)],h.drop⟩
 have hg4:=mD hd2
 refine go h λw h=>?_
 refine qc h (λhd5 w h=>?_) λhd5 w h=>?_
 have hg6:=bI hd5
 refine go h λw h=>?_
 exact rz ⟨by rw[show (s.load c).2=0 from Bl (by omega)],h.drop⟩
 have hg7:=mD hd5
 refine go h λw h=>?_
 obtain⟨j,hj⟩:∃j:Nat,c-1=(j:Int):=⟨(c-1).toNat,by omega⟩
 refine st (bs (j:Int))<|go h λw h=>?_
 obtain⟨b8,rfl⟩:=h.fp a2 (by omega)
 refine go h λw h=>?_
 exact rz ⟨by rw[show (s.load c).2=s.cells.getD j 0 from Kq hj (by omega)],h.drop⟩
theorem fK(s:Ct.St)(zs:List (Ct.Node×Lq))(pn pc:Option Addr)(cn cc:Nat)(r:Int)(h:SH B w (aU 68 14 (.slice pn zs.length cn) zs.length (zs.flatMap cB)::aU 36 1 (.slice pc s.cells.length cc) s.cells.length (s.cells.map (Value.int .i64))::bE zs::L))(hzs:zs.map Prod.fst=aW s)(hr:s.size<=100000000000):
  Calls prog 35 #[.agg [.slice pn zs.length cn,.slice pc s.cells.length cc,↑(s.gen:Int)].toArray,↑r] w λe w'=>∃q,e=.returned (.agg (aL (s.node r) q).toArray)/\SH B w' (aM (s.node r) q::aU 68 14 (.slice pn zs.length cn) zs.length (zs.flatMap cB)::aU 36 1 (.slice pc s.cells.length cc) s.cells.length (s.cells.map (Value.int .i64))::bE zs::L):=by
 have hz2:=iC hzs
 have hrm:s.aG.length+s.cells.length+s.gen+s.acc<=100000000000:=hr
 refine bZ func35 ntmps35 h λw h=>?_
 refine jX h λb1 w h=>?_
 refine jA h λb2 w h=>?_
 refine qg h (λhd3 w h=>?_) λhd3 w h=>?_
 have hg4:=bI hd3
 refine go h λw h=>?_
 refine rr (bP rfl rfl (h.b a0) Row.h) ?_
 rw[wV s r (by omega)];exact⟨{},rfl,SH.eE _ rfl rfl h.drop.drop⟩
 have hg5:=mD hd3
 refine go h λw h=>?_
 refine qc h (λhd6 w h=>?_) λhd6 w h=>?_
 have hg7:=bI hd6
 refine go h λw h=>?_
 refine rr (bP rfl rfl (h.b a0) Row.h) ?_
 rw[wV s r (by omega)];exact⟨{},rfl,SH.eE _ rfl rfl h.drop.drop⟩
 have hg8:=mD hd6
 refine go h λw h=>?_
 obtain⟨j,hj⟩:∃j:Nat,r-1=(j:Int):=⟨(r-1).toNat,by omega⟩
 refine st (bs (j:Int))<|go h λw h=>?_
 obtain⟨b9,rfl⟩:=h.fp a2 (by omega)
 refine go h λw h=>?_
 refine st (gJ rfl ((h.ro a2).x fN (by decide) (by omega) ({},{})) Row.h)<|go h λw h=>?_
 refine rr (bP rfl rfl (h.b a0) Row.h) ?_
 obtain⟨hm,hn⟩:=FX hzs hj (by omega)
 have h:=h.Ll a4 hm
 rw[<- hn];exact⟨_,rfl,(h.fr (.c r1 (.c r1 .n))).drop.drop⟩
theorem KF(s:Ct.St)(zs:List (Ct.Node×Lq))(pn pc:Option Addr)(cn cc:Nat)(t:Ct.bC)(h:SH B w (aU 68 14 (.slice pn zs.length cn) zs.length (zs.flatMap cB)::aU 36 1 (.slice pc s.cells.length cc) s.cells.length (s.cells.map (Value.int .i64))::bE zs::L))(hzs:zs.map Prod.fst=aW s)(hr:s.size<=100000000000):
  Calls prog 55 #[.agg [.slice pn zs.length cn,.slice pc s.cells.length cc,↑(s.gen:Int)].toArray,.agg [↑t.root,↑t.readOnly].toArray] w λe w'=>e=.returned (.tuple #[.int .i64 (Ct.rootOf s t).1,.bool (Ct.rootOf s t).2])/\SH B w' (aU 68 14 (.slice pn zs.length cn) zs.length (zs.flatMap cB)::aU 36 1 (.slice pc s.cells.length cc) s.cells.length (s.cells.map (Value.int .i64))::bE zs::L):=by
 refine bZ func55 ntmps55 h λw h=>?_
 refine jX h λb1 w h=>?_
 refine jX h λb2 w h=>?_
 refine bA (vS _ _ _ _ _ _ _ h.to hzs hr) λw h=>?_
 refine cG (fK _ _ _ _ _ _ _ h.to hzs hr) λq3 w h=>?_
 refine jA h λb4 w h=>?_
 refine qc h (λhd5 w h=>?_) λhd5 w h=>?_
 refine bA (vS _ _ _ _ _ _ _ h.to hzs hr) λw h=>?_
 refine qc h (λhd7 w h=>?_) λhd7 w h=>?_
 refine cG (fK _ _ _ _ _ _ _ h.to hzs hr) λq9 w h=>?_
 refine qc h (λhd10 w h=>?_) λhd10 w h=>?_
 refine rr (gE rfl rfl rfl) ?_
 refine⟨?_,h.to⟩
 have hx:Ct.rootOf s t=(0,false):=by unfold Ct.rootOf Ct.Dw;simp only[hd5,hd7,hd10,Ak,Yv,fU,Rx]
 rw[hx]
 refine rr (gE rfl rfl rfl) ?_
 refine⟨?_,h.to⟩
 have hx:Ct.rootOf s t=((s.node (s.load t.root).2).new,true):=by unfold Ct.rootOf Ct.Dw;simp only[hd5,hd7,hd10,Ak,Yv,fU,Rx]
 rw[hx]
 refine cG (fK _ _ _ _ _ _ _ h.to hzs hr) λq14 w h=>?_
 refine qc h (λhd15 w h=>?_) λhd15 w h=>?_
 refine rr (gE rfl rfl rfl) ?_
 refine⟨?_,h.to⟩
 have hx:Ct.rootOf s t=(0,false):=by unfold Ct.rootOf Ct.Dw;simp only[hd5,hd7,hd15,Ak,Yv,fU,Rx]
 rw[hx]
 refine rr (gE rfl rfl rfl) ?_
 refine⟨?_,h.to⟩
 have hx:Ct.rootOf s t=((s.node (s.load t.root).2).dC,true):=by unfold Ct.rootOf Ct.Dw;simp only[hd5,hd7,hd15,Ak,Yv,fU,Rx]
 rw[hx]
 refine cG (fK _ _ _ _ _ _ _ h.to hzs hr) λq19 w h=>?_
 refine qc h (λhd20 w h=>?_) λhd20 w h=>?_
 refine rr (gE rfl rfl rfl) ?_
 refine⟨?_,h.to⟩
 have hx:Ct.rootOf s t=(0,false):=by unfold Ct.rootOf Ct.Dw;simp only[hd5,hd20,Ak,Yv,fU,Rx]
 rw[hx]
 refine rr (gE rfl rfl rfl) ?_
 refine⟨?_,h.to⟩
 have hx:Ct.rootOf s t=((s.load t.root).2,true):=by unfold Ct.rootOf Ct.Dw;simp only[hd5,hd20,Ak,Yv,fU,Rx]
 rw[hx]
theorem HG(s:Ct.St)(zs:List (Ct.Node×Lq))(pn pc:Option Addr)(cn cc:Nat)(i:Int)(h:SH B w (aU 68 14 (.slice pn zs.length cn) zs.length (zs.flatMap cB)::aU 36 1 (.slice pc s.cells.length cc) s.cells.length (s.cells.map (Value.int .i64))::bE zs::L))(hzs:zs.map Prod.fst=aW s)(hr:s.size<=100000000000):
  Calls prog 113 #[.agg [.slice pn zs.length cn,.slice pc s.cells.length cc,↑(s.gen:Int)].toArray,↑i] w λe w'=>e=.returned (.tuple #[.int .i64 (Ct.jM s i).1,.bool (Ct.jM s i).2])/\SH B w' (aU 68 14 (.slice pn zs.length cn) zs.length (zs.flatMap cB)::aU 36 1 (.slice pc s.cells.length cc) s.cells.length (s.cells.map (Value.int .i64))::bE zs::L):=by
 refine bZ func113 ntmps113 h λw h=>?_
 refine jX h λb1 w h=>?_
 refine cG (fK _ _ _ _ _ _ _ h.to hzs hr) λq2 w h=>?_
 refine qc h (λhd3 w h=>?_) λhd3 w h=>?_
 refine rr (gE rfl rfl rfl) ?_
 refine⟨?_,h.to⟩
 have hx:Ct.jM s i=(0,false):=by unfold Ct.jM Ct.Bp Ct.uW Ct.xR;simp only[hd3,Ak,Yv,fU,Rx]
 rw[hx]
 refine dZ [1,3,5,6,9,10,12] (by kernel_rfl) h (.c r4 .n) λw h=>go h λw h=>?_
 refine lH (fK _ _ _ _ _ _ _ h.to hzs hr) λq6 w h=>?_
 refine gO (vS _ _ _ _ _ _ _ h.to hzs hr) λw h=>?_
 refine cG (fK _ _ _ _ _ _ _ h.to hzs hr) λq7 w h=>?_
 refine bA (Sj _ _ h.to) λw h=>?_
 refine qc h (λhd8 w h=>?_) λhd8 w h=>?_
 have hd9:=(pJ _).mp hd8
 refine rr (gE rfl rfl rfl) ?_
 refine⟨?_,h.to⟩
 have hx:Ct.jM s i=(0,false):=by unfold Ct.jM Ct.Bp Ct.uW Ct.xR;simp only[hd3,hd8,hd9,Ak,Yv,fU,Rx]
 rw[hx]
 have hd10:=(Co _).mp hd8
 refine dZ [1,3,5,6,9,10,12] (by kernel_rfl) h (.c r6 .n) λw h=>go h λw h=>?_
 refine lH (fK _ _ _ _ _ _ _ h.to hzs hr) λq11 w h=>?_
 refine gO (vS _ _ _ _ _ _ _ h.to hzs hr) λw h=>?_
 refine qc h (λhd12 w h=>?_) λhd12 w h=>?_
 refine rr (gE rfl rfl rfl) ?_
 refine⟨?_,h.to⟩
 have hx:Ct.jM s i=((s.load (s.node i).main).2,true):=by unfold Ct.jM Ct.Bp Ct.uW Ct.xR;simp only[hd3,hd8,hd10,hd12,Ak,Yv,fU,Rx]
 rw[hx]
 refine cG (fK _ _ _ _ _ _ _ h.to hzs hr) λq15 w h=>?_
 refine qc h (λhd16 w h=>?_) λhd16 w h=>?_
 refine cG (fK _ _ _ _ _ _ _ h.to hzs hr) λq18 w h=>?_
 refine cG (fK _ _ _ _ _ _ _ h.to hzs hr) λq19 w h=>?_
 refine bA (Sj _ _ h.to) λw h=>?_
 refine qc h (λhd20 w h=>?_) λhd20 w h=>?_
 have hd21:=(pJ _).mp hd20
 refine rr (gE rfl rfl rfl) ?_
 refine⟨?_,h.to⟩
 have hx:Ct.jM s i=(0,false):=by unfold Ct.jM Ct.Bp Ct.uW Ct.xR;simp only[hd3,hd8,hd10,hd12,hd16,hd20,hd21,Ak,Yv,fU,Rx]
 rw[hx]
 have hd22:=(Co _).mp hd20
 refine rr (gE rfl rfl rfl) ?_
 refine⟨?_,h.to⟩
 have hx:Ct.jM s i=((s.node (s.load (s.node (s.load (s.node i).main).2).prev).2).dC,true):=by unfold Ct.jM Ct.Bp Ct.uW Ct.xR;simp only[hd3,hd8,hd10,hd12,hd16,hd20,hd22,Ak,Yv,fU,Rx]
 rw[hx]
 refine cG (fK _ _ _ _ _ _ _ h.to hzs hr) λq24 w h=>?_
 refine bA (Sj _ _ h.to) λw h=>?_
 refine qc h (λhd25 w h=>?_) λhd25 w h=>?_
 have hd26:=(pJ _).mp hd25
 refine rr (gE rfl rfl rfl) ?_
 refine⟨?_,h.to⟩
 have hx:Ct.jM s i=(0,false):=by unfold Ct.jM Ct.Bp Ct.uW Ct.xR;simp only[hd3,hd8,hd10,hd12,hd16,hd25,hd26,Ak,Yv,fU,Rx]
 rw[hx]
 have hd27:=(Co _).mp hd25
 refine rr (gE rfl rfl rfl) ?_
 refine⟨?_,h.to⟩
 have hx:Ct.jM s i=((s.load (s.node (s.load (s.node i).main).2).prev).2,true):=by unfold Ct.jM Ct.Bp Ct.uW Ct.xR;simp only[hd3,hd8,hd10,hd12,hd16,hd25,hd27,Ak,Yv,fU,Rx]
 rw[hx]
theorem JJ(s:Ct.St)(zs:List (Ct.Node×Lq))(pn pc:Option Addr)(cn cc:Nat)(t:Ct.bC)(h:SH B w (aU 68 14 (.slice pn zs.length cn) zs.length (zs.flatMap cB)::aU 36 1 (.slice pc s.cells.length cc) s.cells.length (s.cells.map (Value.int .i64))::bE zs::L))(hzs:zs.map Prod.fst=aW s)(hr:s.size<=100000000000)(hp:Ct.iV s)(hf:∀n∈aW s,n.aA.length<=1000000/\n.aF.length<=200000000000/\n.aD<18446744073709551616):
  Calls prog 19 #[.agg [.slice pn zs.length cn,.slice pc s.cells.length cc,↑(s.gen:Int)].toArray,.agg [↑t.root,↑t.readOnly].toArray] w λe w'=>e=.returned (.tuple #[.int .i64 (Ct.rootOf s t).1,.bool (Ct.rootOf s t).2])/\SH B w' (aU 68 14 (.slice pn zs.length cn) zs.length (zs.flatMap cB)::aU 36 1 (.slice pc s.cells.length cc) s.cells.length (s.cells.map (Value.int .i64))::bE zs::L):=by
 have hz2:=iC hzs
 have hrm:s.aG.length+s.cells.length+s.gen+s.acc<=100000000000:=hr
 refine bZ func19 ntmps19 h λw h=>?_
 refine jX h λb1 w h=>?_
 refine jX h λb2 w h=>?_
 refine bA (Zm _ _ _ _ _ _ h.to hzs hp hf hr) λw h=>?_
 refine bA (KF _ _ _ _ _ _ _ h.to hzs hr) λw h=>?_
 exact rr (gE rfl rfl rfl)<|⟨rfl,h.to⟩
theorem Pn(b:Nat)(h:SH B w (L))(hb:b<18446744073709551616):
  Calls prog 114 #[.int .u64 (b:Int)] w λe w'=>∃p n c,e=.returned (.slice p n c)/\SH B w' L:=by
 refine bZ func114 ntmps114 h λw h=>?_
 have h:=SH.nil 3 1 h
 refine lp (α:=Nat×List Int×Option Addr×Nat) (λρ=>(.c 0 (.int .u64 (b:Int)) (.c 3 (.slice ρ.2.2.1 ρ.2.1.length ρ.2.2.2) (.c 4 (.int .i64 (ρ.1:Int)) .n)))) (λρ w=>SH B w (aU 3 1 (.slice ρ.2.2.1 ρ.2.1.length ρ.2.2.2) ρ.2.1.length (ρ.2.1.map (Value.int .i64))::L)/\(ρ.1<=64)/\(ρ.2.1.length<=ρ.1)) (λρ=>64-ρ.1) (0,[],none,0) ⟨rfl,rfl,rfl,trivial⟩ ⟨h,(Hg _),(bD _)⟩ ?_
 rintro⟨k,xs,px,cx⟩ w ⟨h,hk,hx⟩
 dsimp only at *
 refine go h λw h=>?_
 refine qc h (λhd1 w h=>?_) λhd1 w h=>?_
 have hg2:=bI hd1
 refine go h λw h=>?_
 refine cl (ca eF rfl) ((Ix b (k:Int) _ hb).mono ?_)
 rintro _ _ ⟨rfl,rfl⟩
 refine⟨_,rfl,?_⟩
 refine xe<|nx<|?_
 refine go h λw h=>?_
 refine qc h (λhd3 w h=>?_) λhd3 w h=>?_
 refine sf (bu [↑(k:Int)] h fR.h Ss.h rfl (by kernel_rfl) rfl (by decide) (by decide)) ?_
 rintro _ w ⟨b4,rfl,h⟩
 refine go h λw h=>?_
 refine sf (ap h fR.h rfl Ss.h rfl (by decide) rfl rfl (λ_=>u1) (h.ro a0) (by simp[Value.oneCell']) (DB xs (k:Int)) (fD _ _) (by simp only[Xb,dP];unfold maxLen;omega) (by simp only[Xb,dP];omega)) ?_
 rintro _ w ⟨p5,c6,rfl,h⟩
 refine go h λw h=>?_
 exact⟨(k+1,xs++[(k:Int)],p5,c6),⟨rfl,rfl,rfl,trivial⟩,⟨h.drop,by(try dsimp only);omega,by(try dsimp only);first|omega|(rw[Xb,dP];omega)⟩,by(try dsimp only);omega⟩
 exact⟨(k+1,xs,px,cx),⟨rfl,rfl,rfl,trivial⟩,⟨h,by(try dsimp only);omega,by(try dsimp only);first|omega|(rw[Xb,dP];omega)⟩,by(try dsimp only);omega⟩
 exact rz ⟨_,_,_,rfl,h.drop⟩
theorem DO(s:Ct.St)(zs:List (Ct.Node×Lq))(pn pc:Option Addr)(cn cc:Nat)(i m:Int)(b:Bool)(hb:Ct.jM s i=(m,b))(h:SH B w (aU 68 14 (.slice pn zs.length cn) zs.length (zs.flatMap cB)::aU 36 1 (.slice pc s.cells.length cc) s.cells.length (s.cells.map (Value.int .i64))::bE zs::L))(hzs:zs.map Prod.fst=aW s)(hr:s.size<=100000000000):
  Calls prog 113 #[.agg [.slice pn zs.length cn,.slice pc s.cells.length cc,↑(s.gen:Int)].toArray,↑i] w λe w'=>e=.returned (.tuple #[↑m,↑b])/\SH B w' (aU 68 14 (.slice pn zs.length cn) zs.length (zs.flatMap cB)::aU 36 1 (.slice pc s.cells.length cc) s.cells.length (s.cells.map (Value.int .i64))::bE zs::L):=by
 have:=HG s zs pn pc cn cc i h hzs hr
 rw[hb]at this;exact this
theorem Ty(s:Ct.St)(zs:List (Ct.Node×Lq))(pn pc:Option Addr)(cn cc:Nat)(t:Ct.bC)(rn:Nat)(m:Int)(psn:Option Addr)(csn:Nat)(h:SH B w (aU 68 14 (.slice pn zs.length cn) zs.length (zs.flatMap cB)::aU 36 1 (.slice pc s.cells.length cc) s.cells.length (s.cells.map (Value.int .i64))::bE zs::aU 4 1 (.slice psn (zs.length+1) csn) (zs.length+1) ((List.replicate (zs.length+1) false).flatMap RP)::L))(hzs:zs.map Prod.fst=aW s)(hr:s.size<=100000000000)(hfl:Ct.Flat s t (rn:Int) m)(hbm:(s.node m).aD<18446744073709551616)(hbl:(s.node m).aA.length<=1000000):
  Calls prog 70 #[.agg [.slice pn zs.length cn,.slice pc s.cells.length cc,↑(s.gen:Int)].toArray,.agg [↑(rn:Int),.int .i64 0,.int .i64 0,.int .i64 0,.slice none 0 0].toArray,.slice psn (zs.length+1) csn] w λe w'=>∃pl pp cp,e=.returned (.tuple #[.slice pl 1 1,.slice pp (Ct.dJ s m).length cp,↑true])/\SH B w' (aU 168 2 (.slice pp (Ct.dJ s m).length cp) (Ct.dJ s m).length ((Ct.dJ s m).flatMap aR)::aU 89 5 (.slice pl 1 1) 1 [↑(rn:Int),↑m,.int .i64 0,.int .i64 0,.slice none 0 0]::aU 68 14 (.slice pn zs.length cn) zs.length (zs.flatMap cB)::aU 36 1 (.slice pc s.cells.length cc) s.cells.length (s.cells.map (Value.int .i64))::bE zs::L):=by
 have hz2:=iC hzs
 have hrm:s.aG.length+s.cells.length+s.gen+s.acc<=100000000000:=hr
 have hkd:=hfl.kind
 have hhi:=hfl.hi
 refine bZ func70 ntmps70 h λw h=>?_
 refine jX h λb1 w h=>?_
 refine jX h λb2 w h=>?_
 refine bA (DO _ _ _ _ _ _ _ _ _ hfl.body h.to hzs hr) λw h=>?_
 obtain⟨b3,rfl⟩:=h.fp a5 (by omega)
 refine go h λw h=>?_
 refine st (ld One.h rfl ((h.ro a5).x oN (by decide) (by omega) false 0 _ rfl))<|go h λw h=>?_
 refine cf rfl (HF _ _)<|go h λw h=>?_
 refine sf (ZB (enc:=RP) (a:=true) h Sz.h oN Qh rfl rfl rfl (by omega) (by rw[zT]) u5) ?_
 rintro _ w h
 refine go h λw h=>?_
 refine sf (bu [↑(rn:Int),↑m,.int .i64 0,.int .i64 0,.slice none 0 0] h fR.h Ss.h rfl (by kernel_rfl) rfl (by decide) (by decide)) ?_
 rintro _ w ⟨b4,rfl,h⟩
 refine go h λw h=>?_
 refine cG (fK _ _ _ _ _ _ _ h.to hzs hr) λq5 w h=>?_
 refine jA h λb6 w h=>?_
 refine go h λw h=>?_
 refine go h λw h=>?_
 obtain⟨pb7,cb8,pp9,cp10⟩:=q5
 have h:=h.fr (.c r1 .n)
 have h:=SH.se (l:=[aY (s.node m) (⟨pb7,cb8,pp9,cp10⟩),cH (s.node m) (⟨pb7,cb8,pp9,cp10⟩)]) h
 refine go h λw h=>?_
 refine k9 (Pn _ h.to hbm) λpi11 ni12 ci13 w h=>?_
 have h:=SH.nil 168 2 h
 refine lp (α:=Nat×Option Addr×Nat) (λρ=>(.c 2 (.slice (some ⟨b3,0,none⟩) (zs.length+1) csn) (.c 3 ↑b1 (.c 4 ↑b2 (.c 6 (.slice (some ⟨b4,0,none⟩) 1 1) (.c 7 (.slice ρ.2.1 ρ.1 ρ.2.2) (.c 10 ↑b6 (.c 11 (.slice pi11 ni12 ci13) (.c 12 (.int .i64 (ρ.1:Int)) .n))))))))) (λρ w=>SH B w (aU 168 2 (.slice ρ.2.1 ρ.1 ρ.2.2) ρ.1 (((Ct.dJ s m).take ρ.1).flatMap aR)::bV 1 (.slice pb7 (s.node m).aA.length cb8) (s.node m).aA.length ((s.node m).aA.map (Value.int .i64))::bV 2 (.slice pp9 (s.node m).aF.length cp10) (s.node m).aF.length ((s.node m).aF.flatMap aR)::bl b6 (aL (s.node m) (⟨pb7,cb8,pp9,cp10⟩)) 68::aU 68 14 (.slice pn zs.length cn) zs.length (zs.flatMap cB)::aU 36 1 (.slice pc s.cells.length cc) s.cells.length (s.cells.map (Value.int .i64))::bE zs::aU 89 5 (.slice (some ⟨b4,0,none⟩) 1 1) 1 ([↑(rn:Int),↑m,.int .i64 0,.int .i64 0,.slice none 0 0])::bl b2 ([↑(rn:Int),↑m,.int .i64 0,.int .i64 0,.slice none 0 0]) 89::bl b1 ([.slice pn zs.length cn,.slice pc s.cells.length cc,↑(s.gen:Int)]) 53::aU 4 1 (.slice (some ⟨b3,0,none⟩) (zs.length+1) csn) (zs.length+1) (((List.replicate (zs.length+1) false).set rn true).flatMap RP)::L)/\(ρ.1<=(s.node m).aA.length)) (λρ=>(s.node m).aA.length -ρ.1) (0,none,0) ⟨rfl,rfl,rfl,rfl,rfl,rfl,rfl,rfl,trivial⟩ ⟨h,(Hg _)⟩ ?_
 rintro⟨k,pq,cq⟩ w ⟨h,hk⟩
 dsimp only at *
 refine go h λw h=>?_
 refine qc h (λhd14 w h=>?_) λhd14 w h=>?_
 have hg15:=bI hd14
 refine go h λw h=>?_
 obtain⟨b16,o17,rfl⟩:=h.fq a1 (by omega)
 refine XL (F:=[bl b1 ([.slice pn zs.length cn,.slice pc s.cells.length cc,↑(s.gen:Int)]) 53,bl b6 (aL (s.node m) (⟨some ⟨b16,o17,none⟩,cb8,pp9,cp10⟩)) 68,bV 1 (.slice (some ⟨b16,o17,none⟩) (s.node m).aA.length cb8) (s.node m).aA.length ((s.node m).aA.map (Value.int .i64))]) [1,3,5,7,9,11] 6 7 [14,16] [12,16] (by kernel_rfl) h (λw h=>(hC (h.at_ a9) (hC (h.at_ a3) (hC (h.at_ a1) hN)))) λw h=>go h λw h=>?_
 refine YJ ?_ ?_
 refine lH (fK _ _ _ _ _ _ _ h.to hzs hr) λq18 w h=>?_
 refine jB h λb19 w h=>?_
 refine ct rfl (beq_iff_eq.2 (hfl.br k (by omega)))<|go h λw h=>?_
 refine sf (bu [.string (s.node ((s.node m).aA.getD k 0)).key,.int .u64 (((s.node ((s.node m).aA.getD k 0)).value:Nat):Int)] h fR.h Ss.h rfl (by kernel_rfl) rfl (by decide) (by decide)) ?_
 rintro _ w ⟨b20,rfl,h⟩
 refine go h λw h=>?_
 refine sf (ap h fR.h rfl Ss.h rfl (by decide) rfl rfl (λ_=>u6) (h.ro a0) (by simp[Value.oneCell']) rfl (Mr (by omega)) (by unfold maxLen;omega) (by omega)) ?_
 rintro _ w ⟨p21,c22,rfl,h⟩
 refine go h λw h=>?_
 exact⟨(k+1,p21,c22),⟨rfl,rfl,rfl,rfl,rfl,rfl,rfl,rfl,trivial⟩,⟨h.to,by(try dsimp only);omega⟩,by(try dsimp only);omega⟩
 refine jB h λb23 w h=>?_
 refine lH (fK _ _ _ _ _ _ _ h.to hzs hr) λq24 w h=>?_
 refine ct rfl (beq_iff_eq.2 (hfl.br k (by omega)))<|go h λw h=>?_
 refine sf (bu [.string (s.node ((s.node m).aA.getD k 0)).key,.int .u64 (((s.node ((s.node m).aA.getD k 0)).value:Nat):Int)] h fR.h Ss.h rfl (by kernel_rfl) rfl (by decide) (by decide)) ?_
 rintro _ w ⟨b25,rfl,h⟩
 refine go h λw h=>?_
 refine sf (ap h fR.h rfl Ss.h rfl (by decide) rfl rfl (λ_=>u6) (h.ro a0) (by simp[Value.oneCell']) rfl (Mr (by omega)) (by unfold maxLen;omega) (by omega)) ?_
 rintro _ w ⟨p26,c27,rfl,h⟩
 refine go h λw h=>?_
 exact⟨(k+1,p26,c27),⟨rfl,rfl,rfl,rfl,rfl,rfl,rfl,rfl,trivial⟩,⟨(h.to.fr (.c r3 (.c r3 (.c r3 (.c r3 (.c r0 (.c r0 (.c r0 (.c r0 (.c r0 (.c r0 (.c r0 .n)))))))))))),by(try dsimp only);omega⟩,by(try dsimp only);omega⟩
 have hg28:=mD hd14
 refine go h λw h=>?_
 refine rr (l8 rfl rfl rfl rfl) ?_
 have hkl:k=(Ct.dJ s m).length:=by unfold Ct.dJ;rw[zE];omega
 subst hkl
 rw[List.take_length]at h
 exact⟨_,_,_,rfl,(h.to.fr (.c r0 (.c r3 (.c r0 (.c r0 (.c r0 .n))))))⟩
theorem DA(s:Ct.St)(zs:List (Ct.Node×Lq))(pn pc:Option Addr)(cn cc:Nat)(t:Ct.bC)(r:Int)(b:Bool)(hb:Ct.rootOf s t=(r,b))(h:SH B w (aU 68 14 (.slice pn zs.length cn) zs.length (zs.flatMap cB)::aU 36 1 (.slice pc s.cells.length cc) s.cells.length (s.cells.map (Value.int .i64))::bE zs::L))(hzs:zs.map Prod.fst=aW s)(hr:s.size<=100000000000)(hp:Ct.iV s)(hf:∀n∈aW s,n.aA.length<=1000000/\n.aF.length<=200000000000/\n.aD<18446744073709551616):
  Calls prog 19 #[.agg [.slice pn zs.length cn,.slice pc s.cells.length cc,↑(s.gen:Int)].toArray,.agg [↑t.root,↑t.readOnly].toArray] w λe w'=>e=.returned (.tuple #[↑r,↑b])/\SH B w' (aU 68 14 (.slice pn zs.length cn) zs.length (zs.flatMap cB)::aU 36 1 (.slice pc s.cells.length cc) s.cells.length (s.cells.map (Value.int .i64))::bE zs::L):=by
 have:=JJ s zs pn pc cn cc t h hzs hr hp hf
 rw[hb]at this;exact this
section
attribute [local semireducible] gB wpS Go.E.X XS C jU kP fin Y U F Ca jT bl rb aU bV ex ce pu sK gK bK zK gM fO dH gP nE
attribute [local irreducible] gB wpS
variable{B w:World}{L:List As}
theorem Tl(s:Ct.St)(zs:List (Ct.Node×Lq))(pn pc:Option Addr)(cn cc:Nat)(t:Ct.bC)(rn:Nat)(m:Int)(h:SH B w (aU 68 14 (.slice pn zs.length cn) zs.length (zs.flatMap cB)::aU 36 1 (.slice pc s.cells.length cc) s.cells.length (s.cells.map (Value.int .i64))::bE zs::L))(hzs:zs.map Prod.fst=aW s)(hr:s.size<=100000000000)(hp:Ct.iV s)(hf:∀n∈aW s,n.aA.length<=1000000/\n.aF.length<=200000000000/\n.aD<18446744073709551616)(hfl:Ct.Flat s t (rn:Int) m)(hbm:(s.node m).aD<18446744073709551616)(hbl:(s.node m).aA.length<=1000000):
  Calls prog 33 #[.agg [.slice pn zs.length cn,.slice pc s.cells.length cc,↑(s.gen:Int)].toArray,.agg [↑t.root,↑t.readOnly].toArray] w λe w'=>∃pl pp cp,e=.returned (.tuple #[.slice pl 1 1,.slice pp (Ct.dJ s m).length cp,↑true])/\SH B w' (aU 168 2 (.slice pp (Ct.dJ s m).length cp) (Ct.dJ s m).length ((Ct.dJ s m).flatMap aR)::aU 89 5 (.slice pl 1 1) 1 [↑(rn:Int),↑m,.int .i64 0,.int .i64 0,.slice none 0 0]::aU 68 14 (.slice pn zs.length cn) zs.length (zs.flatMap cB)::aU 36 1 (.slice pc s.cells.length cc) s.cells.length (s.cells.map (Value.int .i64))::bE zs::L):=by
 have hz2:=iC hzs
 have hrm:s.aG.length+s.cells.length+s.gen+s.acc<=100000000000:=hr
 refine Ea (args:=[_,_]) func33 rfl ntmps33 rfl ?_
 refine sq<|rg<|sf (bx h rfl rfl)<|?_
 rintro _ w ⟨b1,rfl,h⟩
 refine sf (bx h rfl rfl)<|?_
 rintro _ w ⟨b2,rfl,h⟩
 refine st (sg rfl)<|st (sg rfl)<|st (sg rfl)<|xe<|nx<|sq<|rg<|st (gJ rfl (dK (h.b a1)) iO)<|st (gJ rfl (dK (h.b a0)) oG)<|cl (ca eF rfl) ((DA s zs pn pc cn cc t (rn:Int) true hfl.root (h.fr (.c r2 (.c r2 (.c r2 .n)))) hzs hr hp hf).mono ?_)
 rintro _ w ⟨rfl,h⟩
 refine⟨_,rfl,?_⟩
 refine st (mv rfl)<|st (xr rfl rfl)<|st (xr rfl rfl)<|st (sg rfl)<|st (sg rfl)<|xe<|nx<|sq<|sq<|rg<|st (mv rfl)<|st (nt rfl)<|xe<|nx<|cF rfl<|sk<|nx<|sq<|dZ [1,3,5,7,9,11,13,14,16,19,21,23,25,26,28,30] (by kernel_rfl) h (.c r4 .n) λw h=>tk (λW H=>gJ rfl (dK (H.b a0)) iO)<|tk (λW H=>mv rfl)<|tk (λW H=>bd [↑(rn:Int),.int .i64 0,.int .i64 0,.int .i64 0,.slice none 0 0] Uh rfl (by kernel_rfl))<|tk (λW H=>fa vD rfl)<|tk (λW H=>ld Ba rfl (H.c a0 rfl))<|tk (λW H=>ln vI rfl rfl)<|tk (λW H=>bw rfl rfl (gN (c:=((zs.length+1:Nat):Int)) (by omega) (by omega) (by omega)))<|ff (mk h Ey D3 rfl rfl (by omega) (by unfold maxLen;omega))<|?_
 rintro _ w ⟨b3,rfl,h⟩
 rw[rV oN (by decide) (d:=false) rfl]at h
 refine⟨h.hs (.c r5 .n),?_⟩
 refine cs (ca eF rfl) ((Ty s zs pn pc cn cc t rn m _ _ (h.fr (.c r1 (.c r1 (.c r1 (.c r0 .n))))) hzs hr hfl hbm hbl).mono ?_)
 rintro _ w ⟨pl4,pp5,cp6,rfl,h⟩
 refine⟨_,rfl,h.hs (.c r6 .n),?_⟩
 refine tk (λW H=>mv rfl)<|tk (λW H=>xr rfl rfl)<|tk (λW H=>xr rfl rfl)<|tk (λW H=>xr rfl rfl)<|ef (sg rfl) (h.hs (.c r6 .n))<|ef (sg rfl) (h.hs (.c r6 .n))<|ef (sg rfl) (h.hs (.c r6 .n))<|xz<|nx<|sq<|sq<|rg<|st (mv rfl)<|st (nt rfl)<|xe<|nx<|cF rfl<|sk<|nx<|sq<|rg<|st (mv rfl)<|st (mv rfl)<|st (sg rfl)<|st (sg rfl)<|st (sg rfl)<|xe<|nx<|rt<|?_
 refine rr (l8 results33 rfl rfl rfl)<|⟨pl4,pp5,cp6,rfl,(h.fr (.c r5 (.c r5 .n))).drop.drop⟩
end
variable{B w:World}{L:List As}
theorem Lb(s:Ct.St)(zs:List (Ct.Node×Lq))(pn pc:Option Addr)(cn cc:Nat)(t:Ct.bC)(rn:Nat)(m:Int)(h:SH B w (aU 68 14 (.slice pn zs.length cn) zs.length (zs.flatMap cB)::aU 36 1 (.slice pc s.cells.length cc) s.cells.length (s.cells.map (Value.int .i64))::bE zs::L))(hzs:zs.map Prod.fst=aW s)(hr:s.size<=100000000000)(hp:Ct.iV s)(hf:∀n∈aW s,n.aA.length<=1000000/\n.aF.length<=200000000000/\n.aD<18446744073709551616)(hfl:Ct.Flat s t (rn:Int) m)(hbm:(s.node m).aD<18446744073709551616)(hbl:(s.node m).aA.length<=1000000):
  Calls prog 43 #[.agg [.slice pn zs.length cn,.slice pc s.cells.length cc,↑(s.gen:Int)].toArray,.agg [↑t.root,↑t.readOnly].toArray] w λe w'=>∃pp cp,e=.returned (.tuple #[.slice pp (Ct.dJ s m).length cp,.int .i64 0])/\SH B w' (aU 168 2 (.slice pp (Ct.dJ s m).length cp) (Ct.dJ s m).length ((Ct.dJ s m).flatMap aR)::L):=by
 have hz2:=iC hzs
 have hrm:s.aG.length+s.cells.length+s.gen+s.acc<=100000000000:=hr
 refine bZ func43 ntmps43 h λw h=>?_
 refine jX h λb1 w h=>?_
 refine jX h λb2 w h=>?_
 refine k9 (Tl _ _ _ _ _ _ _ _ _ h.to hzs hr hp hf hfl hbm hbl) λpl3 pp4 cp5 w h=>?_
 exact rr (gE rfl rfl rfl)<|⟨pp4,cp5,rfl,h.to⟩
end Go.Q9
end
