/- Parts of a proof: Pr, Ayf. -/
import Derived.Test.YtlijgnlhkcbgpaaGreatDoorW31
set_option linter.unusedVariables false
set_option linter.unusedSimpArgs false
set_option maxRecDepth 100000
set_option maxHeartbeats 4000000
section
namespace Go.Q9
open Go.Proofs.Tryz
open Go.RowKit Go.E
attribute [local irreducible] gB wpS Go.E.X XS C jU kP fin Y U F Ca jT bl rb aU bV ex ce pu sK gK bK zK gM fO dH gP nE
def RP(b:Bool):List Value:=[↑b]
theorem oN(b:Bool):(RP b).length=1:=rfl
theorem Qh(b:Bool):(RP b).all Value.oneCell'=true:=rfl
theorem fC{α:Type}{l:List α}{i:Nat}{d:α}(h:i<l.length):l.getD i d∈l:=by
 rw[eX,fM h];exact qR h
theorem pP{zs:List (Ct.Node×Lq)}{s:Ct.St}(h:zs.map Prod.fst=aW s){k:Nat}(hk:k<zs.length):(zs.getD k ({},{})∈zs/\(zs.getD k ({},{})).1∈aW s)/\k<(aW s).length/\(zs.getD k ({},{})).1=(aW s).getD k {}:=by
 have e:zs.getD k ({},{})=zs[k]:=by rw[eX,fM hk];rfl
 have hl:(aW s).length=zs.length:=by rw[<- h,mI]
 refine⟨⟨fC hk,?_⟩,by omega,?_⟩
 ·rw[<- h,e];exact List.mem_map_of_mem (qR hk)
 ·rw[e,<- h,eX,Tx,fM hk];rfl
theorem Wb{zs:List (Ct.Node×Lq)}{s:Ct.St}(h:zs.map Prod.fst=aW s):(zs.getD 0 ({},{})).1.kind=1/\(zs.getD 1 ({},{})).1.kind=1:=by
 have hz:=iC h
 refine⟨?_,?_⟩
 ·rw[(pP h (k:=0) (by omega)).2.2];rfl
 ·rw[(pP h (k:=1) (by omega)).2.2];rfl
variable{B w:World}{L:List As}
theorem pB(r:Int)(n:Nat)(h:SH B w (L))(hr:0<=r/\r<=(n:Int)):
  Calls prog 74 #[↑r,↑(n:Int)] w λe w'=>e=.returned ↑true/\SH B w' L:=by
 refine bZ func74 ntmps74 h λw h=>?_
 refine rz ?_
 exact⟨by rw[show (decide ((r:Int)<=(n:Int)))=true from cW (by omega)],h⟩
theorem AI(n:Ct.Node)(q:Lq)(h:SH B w (L)):
  Calls prog 77 #[.agg (aL n q).toArray] w λe w'=>e=.returned (.tuple #[↑n.gZ,↑n.cA])/\SH B w' L:=by
 refine bZ func77 ntmps77 h λw h=>?_
 refine jX h λb1 w h=>?_
 refine qc h (λhd2 w h=>?_) λhd2 w h=>?_
 have hg3:=eq_of_beq hd2
 refine go h λw h=>?_
 refine rr (gE rfl rfl rfl) ?_
 have hp:n.gZ=n.main:=by unfold Ct.Node.gZ;rw[if_pos (eq_of_beq hd2)]
 have hh:n.cA=true:=by unfold Ct.Node.cA;rw[hd2];simp
 exact⟨by rw[hp,hh],h.drop⟩
 have hg4:=Pe hd2
 refine go h λw h=>?_
 refine bA (tB _ _ h.to) λw h=>?_
 refine qc h (λhd5 w h=>?_) λhd5 w h=>?_
 refine rr (gE rfl rfl rfl) ?_
 have hp:n.gZ=n.prev:=by unfold Ct.Node.gZ;rw[if_neg (Pe hd2),if_pos hd5]
 have hh:n.cA=true:=by unfold Ct.Node.cA;rw[hd2,hd5];simp
 exact⟨by rw[hp,hh],h.drop⟩
 refine qc h (λhd6 w h=>?_) λhd6 w h=>?_
 have hg7:=eq_of_beq hd6
 refine go h λw h=>?_
 refine rr (gE rfl rfl rfl) ?_
 have hp:n.gZ=n.status:=by unfold Ct.Node.gZ;rw[if_neg (Pe hd2),if_neg (λq=>by rw[hd5]at q;cases q),if_pos (eq_of_beq hd6)]
 have hh:n.cA=true:=by unfold Ct.Node.cA;rw[hd2,hd5,hd6];simp
 exact⟨by rw[hp,hh],h.drop⟩
 have hg8:=Pe hd6
 refine go h λw h=>?_
 refine rr (gE rfl rfl rfl) ?_
 have hp:n.gZ=0:=by unfold Ct.Node.gZ;rw[if_neg (Pe hd2),if_neg (λq=>by rw[hd5]at q;cases q),if_neg (Pe hd6)]
 have hh:n.cA=false:=by unfold Ct.Node.cA;rw[hd2,hd5,hd6];simp
 exact⟨by rw[hp,hh],h.drop⟩
theorem Ho(s:Ct.St)(n:Ct.Node)(pb:Option Addr)(cb:Nat)(pp:Option Addr)(cp:Nat)(h:SH B w (aM n (⟨pb,cb,pp,cp⟩)::L))(hp:Ct.FO s n)(hb:n.aA.length<=1000000):
  Calls prog 76 #[.agg (aL n (⟨pb,cb,pp,cp⟩)).toArray,.int .i64 ((2+s.aG.length:Nat):Int)] w λe w'=>e=.returned ↑true/\SH B w' (aM n ⟨pb,cb,pp,cp⟩::L):=by
 refine bZ func76 ntmps76 h λw h=>?_
 refine jX h λb1 w h=>?_
 have h:=h.fr (.c r1 .n)
 have h:=SH.se (l:=[aY n (⟨pb,cb,pp,cp⟩),cH n (⟨pb,cb,pp,cp⟩)]) h
 refine go h λw h=>?_
 refine lp (α:=Nat) (λρ=>(.c 1 (.int .i64 ((2+s.aG.length:Nat):Int)) (.c 2 ↑b1 (.c 8 (.slice pb n.aA.length cb) (.c 9 ↑(n.aA.length:Int) (.c 10 (.int .i64 (ρ:Int)) .n)))))) (λρ w=>SH B w (bV 1 (.slice pb n.aA.length cb) n.aA.length (n.aA.map (Value.int .i64))::bV 2 (.slice pp n.aF.length cp) n.aF.length (n.aF.flatMap aR)::bl b1 (aL n (⟨pb,cb,pp,cp⟩)) 112::L)/\(ρ<=n.aA.length)) (λρ=>n.aA.length-ρ) 0 ⟨rfl,rfl,rfl,rfl,rfl,trivial⟩ ⟨h,Xe _⟩ ?_
 rintro k w ⟨h,hk⟩
 refine go h λw h=>?_
 refine qc h (λhd2 w h=>?_) λhd2 w h=>?_
 have hg3:=dP hd2
 refine go h λw h=>?_
 obtain⟨b4,o5,rfl⟩:=h.fq a0 (by omega)
 refine go h λw h=>?_
 refine bA (pB _ _ h.to (hp.br _ (fC (by omega)))) λw h=>?_
 exact⟨(k+1),⟨rfl,rfl,rfl,rfl,rfl,trivial⟩,⟨h,by(try dsimp only);omega⟩,by(try dsimp only);omega⟩
 have hg6:=bI hd2
 refine go h λw h=>?_
 refine bA (pB _ _ h.to hp.dC) λw h=>?_
 refine bA (pB _ _ h.to hp.ex) λw h=>?_
 refine bA (pB _ _ h.to hp.nw) λw h=>?_
 exact rz ⟨rfl,SH.is (l:=[aY n ⟨pb,cb,pp,cp⟩,cH n ⟨pb,cb,pp,cp⟩]) h.to⟩
theorem KX(n:Ct.Node)(q:Lq)(h:SH B w (aM n q::L))(hv:n.valid=true)(hb:n.aA.length<=1000000)(hp:n.aF.length<=1000000000000)(hm:n.aD<18446744073709551616):
  Calls prog 75 #[.agg (aL n q).toArray] w λe w'=>e=.returned ↑true/\SH B w' (aM n q::L):=xX n q.pb q.cb q.pp q.cp h hv hb hp hm
theorem Qu(st:Ct.St)(n:Ct.Node)(q:Lq)(m:Nat)(hm:m=2+st.aG.length)(h:SH B w (aM n q::L))(hp:Ct.FO st n)(hb:n.aA.length<=1000000):
  Calls prog 76 #[.agg (aL n q).toArray,↑(m:Int)] w λe w'=>e=.returned ↑true/\SH B w' (aM n q::L):=by
 subst hm;exact Ho st n q.pb q.cb q.pp q.cp h hp hb
theorem CD(s:Ct.St)(zs:List (Ct.Node×Lq))(pn pc:Option Addr)(cn cc:Nat)(h:SH B w (aU 112 14 (.slice pn zs.length cn) zs.length (zs.flatMap cB)::aU 45 1 (.slice pc s.cells.length cc) s.cells.length (s.cells.map (Value.int .i64))::bE zs::L))(hzs:zs.map Prod.fst=aW s)(hp:Ct.iV s)(hf:∀n∈aW s,n.aA.length<=1000000/\n.aF.length<=200000000000/\n.aD<18446744073709551616)(hr:s.size<=100000000000):
  Calls prog 48 #[.agg [.slice pn zs.length cn,.slice pc s.cells.length cc,↑(s.gen:Int)].toArray] w λe w'=>e=.returned ↑true/\SH B w' (aU 112 14 (.slice pn zs.length cn) zs.length (zs.flatMap cB)::aU 45 1 (.slice pc s.cells.length cc) s.cells.length (s.cells.map (Value.int .i64))::bE zs::L):=by
 have hz2:=iC hzs
 have hrm:s.aG.length+s.cells.length+s.gen+s.acc<=100000000000:=hr
 have hsort:((aW s).filter Ct.Node.cA).Pairwise _:=hp.tC
 obtain⟨hk0,hk1⟩:=Wb hzs
 refine bZ func48 ntmps48 h λw h=>?_
 refine jX h λb1 w h=>?_
 obtain⟨b2,rfl⟩:=h.fp a1 (by omega)
 refine go h λw h=>?_
 refine st (ld One.h rfl ((h.ro a1).x fN (by decide) (j:=0) (by omega) ({},{}) 0 _ rfl))<|go h λw h=>?_
 refine gT rfl rfl (oE (by omega))<|go h λw h=>?_
 refine gT rfl rfl (oE (by omega))<|go h λw h=>?_
 refine gT rfl rfl (oE (by omega))<|go h λw h=>?_
 refine gT rfl rfl (oE (by omega))<|go h λw h=>?_
 refine gT rfl rfl (oE (by omega))<|st (ld One.h rfl ((h.ro a1).x fN (by decide) (j:=1) (by omega) ({},{}) 0 _ rfl))<|gT rfl rfl (oE (by omega))<|go h λw h=>?_
 refine st (pF rfl (oE (by omega)) rfl)<|go h λw h=>?_
 refine cf rfl (oE (by omega))<|go h λw h=>?_
 refine lp (α:=Nat) (λρ=>(.c 1 ↑b1 (.c 34 (.slice pc s.cells.length cc) (.c 35 ↑(s.cells.length:Int) (.c 36 (.int .i64 (ρ:Int)) .n))))) (λρ w=>SH B w (bl b1 ([.slice (some ⟨b2,0,none⟩) zs.length cn,.slice pc s.cells.length cc,↑(s.gen:Int)]) 67::aU 112 14 (.slice (some ⟨b2,0,none⟩) zs.length cn) zs.length (zs.flatMap cB)::aU 45 1 (.slice pc s.cells.length cc) s.cells.length (s.cells.map (Value.int .i64))::bE zs::L)/\(ρ<=s.cells.length)) (λρ=>s.cells.length-ρ) 0 ⟨rfl,rfl,rfl,rfl,trivial⟩ ⟨h,Xe _⟩ ?_
 rintro k w ⟨h,hk⟩
 refine go h λw h=>?_
 refine qc h (λhd3 w h=>?_) λhd3 w h=>?_
 have hg4:=dP hd3
 refine go h λw h=>?_
 obtain⟨b5,rfl⟩:=h.fp a2 (by omega)
 refine go h λw h=>?_
 refine bA (pB _ _ h.to (by have:=hp.cells _ (fC (i:=k) (l:=s.cells) (d:=0) (by omega));omega)) λw h=>?_
 exact⟨(k+1),⟨rfl,rfl,rfl,rfl,trivial⟩,⟨h,by(try dsimp only);omega⟩,by(try dsimp only);omega⟩
 have hg6:=bI hd3
 refine go h λw h=>?_
 refine sf (mk h fR.h Ss.h rfl rfl (by omega) (by unfold maxLen;omega)) ?_
 rintro _ w ⟨b7,rfl,h⟩
 refine go h λw h=>?_
 rw[rV oN (by decide) (d:=false) rfl]at h
 refine go h λw h=>?_
 refine lp (α:=Nat×List Bool) (λρ=>(.c 1 ↑b1 (.c 5 (.slice (some ⟨b7,0,none⟩) s.cells.length s.cells.length) (.c 52 (.slice (some ⟨b2,0,none⟩) zs.length cn) (.c 53 ↑(zs.length:Int) (.c 54 (.int .i64 (ρ.1:Int)) .n)))))) (λρ w=>SH B w (aU 4 1 (.slice (some ⟨b7,0,none⟩) s.cells.length s.cells.length) s.cells.length (ρ.2.flatMap RP)::bl b1 ([.slice (some ⟨b2,0,none⟩) zs.length cn,.slice pc s.cells.length cc,↑(s.gen:Int)]) 67::aU 112 14 (.slice (some ⟨b2,0,none⟩) zs.length cn) zs.length (zs.flatMap cB)::aU 45 1 (.slice pc s.cells.length cc) s.cells.length (s.cells.map (Value.int .i64))::bE zs::L)/\(Ct.Eu (aW s) ρ.1 ρ.2)/\(ρ.2.length=s.cells.length)/\(ρ.1<=zs.length)) (λρ=>zs.length-ρ.1) (0,List.replicate s.cells.length false) ⟨rfl,rfl,rfl,rfl,rfl,trivial⟩ ⟨h,(Ct.Hf _ _),(List.length_replicate ..),(Xe _)⟩ ?_
 rintro⟨k,bs⟩ w ⟨h,hN,hbs,hk⟩
 dsimp only at *
 refine go h λw h=>?_
 refine qc h (λhd8 w h=>?_) λhd8 w h=>?_
 have hg9:=dP hd8
 refine go h λw h=>?_
 refine st (gJ rfl ((h.ro a2).x fN (by decide) (by omega) ({},{})) Row.h)<|go h λw h=>?_
 refine jA h λb10 w h=>?_
 obtain⟨hm,hkn,hnd⟩:=pP hzs (k:=k) (by omega)
 have hpn:=hp.all _ hm.2
 have hfn:=hf _ hm.2
 have hfb:=hfn.1
 have hfp:=hfn.2.1
 have hfm:=hfn.2.2
 have h:=h.Ll a5 hm.1
 refine go h λw h=>?_
 refine bA (KX _ _ h.to hpn.valid (by omega) (by omega) (by omega)) λw h=>?_
 refine gT rfl rfl (dA (by have:=hpn.gen;omega))<|go h λw h=>?_
 refine gT rfl rfl (dA (by have:=hpn.gen;omega))<|go h λw h=>?_
 refine gT rfl rfl (dA (by have:=hpn.gen;omega))<|go h λw h=>?_
 refine gT rfl rfl (dA (by have:=hpn.gen;omega))<|go h λw h=>?_
 refine gT rfl rfl (dA (by have:=hpn.gen;omega))<|go h λw h=>?_
 refine bA (Qu _ _ _ _ hz2 h.to hpn (by omega)) λw h=>?_
 refine gT rfl rfl (dA (by have:=hpn.gen;omega))<|go h λw h=>?_
 refine st (pF rfl (dA (by have:=hpn.gen;omega)) rfl)<|go h λw h=>?_
 refine bA (AI _ _ h.to) λw h=>?_
 refine qc h (λhd11 w h=>?_) λhd11 w h=>?_
 have hd12:=(lC _).mp hd11
 refine go h λw h=>?_
 exact⟨(k+1,bs),⟨rfl,rfl,rfl,rfl,rfl,trivial⟩,⟨h.drop.drop,(Ct.yI hN),by(try dsimp only);omega,by(try dsimp only);omega⟩,by(try dsimp only);omega⟩
 have hd13:=(AD _).mp hd11
 refine go h λw h=>?_
 refine gT rfl rfl (dA (by have:=hpn.lo hd13;omega))<|go h λw h=>?_
 refine gT rfl rfl (dA (by have:=hpn.lo hd13;omega))<|go h λw h=>?_
 refine gT rfl rfl (dA (by have:=hpn.lo hd13;omega))<|go h λw h=>?_
 refine gT rfl rfl (dA (by have:=hpn.lo hd13;omega))<|go h λw h=>?_
 refine gT rfl rfl (dA (by have:=hpn.lo hd13;omega))<|go h λw h=>?_
 refine st (pF rfl (dA (by have:=hpn.lo hd13;omega)) rfl)<|go h λw h=>?_
 refine gT rfl rfl (dA (by have:=hpn.lo hd13;omega))<|go h λw h=>?_
 refine gT rfl rfl (dA (by have:=hpn.lo hd13;omega))<|go h λw h=>?_
 refine gT rfl rfl (dA (by have:=hpn.lo hd13;omega))<|go h λw h=>?_
 obtain⟨j,hj⟩:∃j:Nat,(zs.getD k ({},{})).1.gZ -1=(j:Int):=⟨((zs.getD k ({},{})).1.gZ -1).toNat,by have:=hpn.lo hd13;omega⟩
 have hjl:j<s.cells.length:=by have:=hpn.lo hd13;omega
 refine st (bw rfl rfl (zW (c:=(j:Int)) (by omega) (by omega) (by omega)))<|gT rfl rfl (dA (by have:=hpn.lo hd13;omega))<|?_
 refine st (ix (j:=j) W7 AU rfl rfl (by omega))<|?_
 refine go h λw h=>?_
 refine st (ld One.h rfl ((h.ro a2).x oN (by decide) (by omega) false 0 _ rfl))<|st (pF rfl (dA (by have:=hpn.lo hd13;omega)) rfl)<|go h λw h=>?_
 refine cf rfl (Ct.Vy hsort hN hkn (by rw[<- hnd];exact hd13) (by rw[<- hnd];exact hj))<|go h λw h=>?_
 refine st (bw rfl rfl (zW (c:=(j:Int)) (by omega) (by omega) (by omega)))<|?_
 refine st (ix (j:=j) W7 AU rfl rfl (by omega))<|?_
 refine go h λw h=>?_
 refine sf (ZB (enc:=RP) (a:=true) h Sz.h oN Qh rfl rfl rfl (by omega) (by omega) u2) ?_
 rintro _ w h
 refine go h λw h=>?_
 exact⟨(k+1,bs.set j true),⟨rfl,rfl,rfl,rfl,rfl,trivial⟩,⟨h.drop.drop,(Ct.Je hN hkn (by rw[<- hnd];exact hd13) (by rw[<- hnd];exact hj)),by(try dsimp only);rw[Fh];omega,by(try dsimp only);omega⟩,by(try dsimp only);omega⟩
 have hg14:=bI hd8
 refine go h λw h=>?_
 exact rz ⟨rfl,h.drop.drop⟩
end Go.Q9
end
section
namespace Go.Q9
open Go.Proofs.Tryz
open Go.E
theorem aBb:xA prog 67=some 3:=by kernel_rfl
end Go.Q9
end
