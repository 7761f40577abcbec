/- Parts of a proof: Pr, Ayf, Ps4. -/
import Derived.Test.YtlpbjpanggcbbaaGreatDoorW29
set_option linter.unusedVariables false
set_option linter.unusedSimpArgs false
set_option maxRecDepth 100000
set_option maxHeartbeats 4000000
section
namespace Go.Q9
open Go.Proofs.Tryz
open Go.RowKit Go.E
attribute [local irreducible] gB wpS Go.E.X XS C jU kP fin Y U F Ca jT bl rb aU bV ex ce pu sK gK bK zK gM fO dH gP nE
def RP(b:Bool):List Value:=[↑b]
theorem oN(b:Bool):(RP b).length=1:=rfl
theorem Qh(b:Bool):(RP b).all Value.oneCell'=true:=rfl
theorem fC{α:Type}{l:List α}{i:Nat}{d:α}(h:i<l.length):l.getD i d∈l:=by
 rw[Fb,fM h];exact qR h
theorem pP{zs:List (Ct.Node×Lq)}{s:Ct.St}(h:zs.map Prod.fst=aW s){k:Nat}(hk:k<zs.length):(zs.getD k ({},{})∈zs/\(zs.getD k ({},{})).1∈aW s)/\k<(aW s).length/\(zs.getD k ({},{})).1=(aW s).getD k {}:=by
 have e:zs.getD k ({},{})=zs[k]:=by rw[Fb,fM hk];rfl
 have hl:(aW s).length=zs.length:=by rw[<- h,mI]
 refine⟨⟨fC hk,?_⟩,by omega,?_⟩
 ·rw[<- h,e];exact List.mem_map_of_mem (qR hk)
 ·rw[e,<- h,Fb,Tx,fM hk];rfl
theorem Wb{zs:List (Ct.Node×Lq)}{s:Ct.St}(h:zs.map Prod.fst=aW s):(zs.getD 0 ({},{})).1.kind=1/\(zs.getD 1 ({},{})).1.kind=1:=by
 have hz:=iC h
 refine⟨?_,?_⟩
 ·rw[(pP h (k:=0) (by omega)).2.2];rfl
 ·rw[(pP h (k:=1) (by omega)).2.2];rfl
variable{B w:World}{L:List As}
theorem pB(r:Int)(n:Nat)(h:SH B w (L))(hr:0<=r/\r<=(n:Int)):
  Calls prog 77 #[↑r,↑(n:Int)] w λe w'=>e=.returned ↑true/\SH B w' L:=by
 refine bZ func77 ntmps77 h λw h=>?_
 refine rz ?_
 exact⟨by rw[show (decide ((r:Int)<=(n:Int)))=true from eC (by omega)],h⟩
theorem AI(n:Ct.Node)(q:Lq)(h:SH B w (L)):
  Calls prog 80 #[.agg (aL n q).toArray] w λe w'=>e=.returned (.tuple #[↑n.gZ,↑n.cA])/\SH B w' L:=by
 refine bZ func80 ntmps80 h λw h=>?_
 refine jX h λb1 w h=>?_
 refine qc h (λhd2 w h=>?_) λhd2 w h=>?_
 have hg3:=eq_of_beq hd2
 refine go h λw h=>?_
 refine rr (gE rfl rfl rfl) ?_
 have hp:n.gZ=n.main:=by unfold Ct.Node.gZ;rw[if_pos (eq_of_beq hd2)]
 have hh:n.cA=true:=by unfold Ct.Node.cA;rw[hd2];simp
 exact⟨by rw[hp,hh],h.drop⟩
 have hg4:=mD hd2
 refine go h λw h=>?_
 refine bA (tB _ _ h.to) λw h=>?_
 refine qc h (λhd5 w h=>?_) λhd5 w h=>?_
 refine rr (gE rfl rfl rfl) ?_
 have hp:n.gZ=n.prev:=by unfold Ct.Node.gZ;rw[if_neg (mD hd2),if_pos hd5]
 have hh:n.cA=true:=by unfold Ct.Node.cA;rw[hd2,hd5];simp
 exact⟨by rw[hp,hh],h.drop⟩
 refine qc h (λhd6 w h=>?_) λhd6 w h=>?_
 have hg7:=eq_of_beq hd6
 refine go h λw h=>?_
 refine rr (gE rfl rfl rfl) ?_
 have hp:n.gZ=n.status:=by unfold Ct.Node.gZ;rw[if_neg (mD hd2),if_neg (λq=>by rw[hd5]at q;cases q),if_pos (eq_of_beq hd6)]
 have hh:n.cA=true:=by unfold Ct.Node.cA;rw[hd2,hd5,hd6];simp
 exact⟨by rw[hp,hh],h.drop⟩
 have hg8:=mD hd6
 refine go h λw h=>?_
 refine rr (gE rfl rfl rfl) ?_
 have hp:n.gZ=0:=by unfold Ct.Node.gZ;rw[if_neg (mD hd2),if_neg (λq=>by rw[hd5]at q;cases q),if_neg (mD hd6)]
 have hh:n.cA=false:=by unfold Ct.Node.cA;rw[hd2,hd5,hd6];simp
 exact⟨by rw[hp,hh],h.drop⟩
theorem Ho(s:Ct.St)(n:Ct.Node)(pb:Option Addr)(cb:Nat)(pp:Option Addr)(cp:Nat)(h:SH B w (aM n (⟨pb,cb,pp,cp⟩)::L))(hp:Ct.FO s n)(hb:n.aA.length<=1000000):
  Calls prog 79 #[.agg (aL n (⟨pb,cb,pp,cp⟩)).toArray,.int .i64 ((2+s.aG.length:Nat):Int)] w λe w'=>e=.returned ↑true/\SH B w' (aM n ⟨pb,cb,pp,cp⟩::L):=by
 refine bZ func79 ntmps79 h λw h=>?_
 refine jX h λb1 w h=>?_
 have h:=h.fr (.c r1 .n)
 have h:=SH.se (l:=[aY n (⟨pb,cb,pp,cp⟩),cH n (⟨pb,cb,pp,cp⟩)]) h
 refine go h λw h=>?_
 refine lp (α:=Nat) (λρ=>(.c 1 (.int .i64 ((2+s.aG.length:Nat):Int)) (.c 2 ↑b1 (.c 8 (.slice pb n.aA.length cb) (.c 9 ↑(n.aA.length:Int) (.c 10 (.int .i64 (ρ:Int)) .n)))))) (λρ w=>SH B w (bV 1 (.slice pb n.aA.length cb) n.aA.length (n.aA.map (Value.int .i64))::bV 2 (.slice pp n.aF.length cp) n.aF.length (n.aF.flatMap aR)::bl b1 (aL n (⟨pb,cb,pp,cp⟩)) 118::L)/\(ρ<=n.aA.length)) (λρ=>n.aA.length-ρ) 0 ⟨rfl,rfl,rfl,rfl,rfl,trivial⟩ ⟨h,Xe _⟩ ?_
 rintro k w ⟨h,hk⟩
 refine go h λw h=>?_
 refine qc h (λhd2 w h=>?_) λhd2 w h=>?_
 have hg3:=dA hd2
 refine go h λw h=>?_
 obtain⟨b4,o5,rfl⟩:=h.fq a0 (by omega)
 refine go h λw h=>?_
 refine bA (pB _ _ h.to (hp.br _ (fC (by omega)))) λw h=>?_
 exact⟨(k+1),⟨rfl,rfl,rfl,rfl,rfl,trivial⟩,⟨h,by(try dsimp only);omega⟩,by(try dsimp only);omega⟩
 have hg6:=dP hd2
 refine go h λw h=>?_
 refine bA (pB _ _ h.to hp.dC) λw h=>?_
 refine bA (pB _ _ h.to hp.ex) λw h=>?_
 refine bA (pB _ _ h.to hp.nw) λw h=>?_
 exact rz ⟨rfl,SH.is (l:=[aY n ⟨pb,cb,pp,cp⟩,cH n ⟨pb,cb,pp,cp⟩]) h.to⟩
theorem KX(n:Ct.Node)(q:Lq)(h:SH B w (aM n q::L))(hv:n.valid=true)(hb:n.aA.length<=1000000)(hp:n.aF.length<=1000000000000)(hm:n.aD<18446744073709551616):
  Calls prog 78 #[.agg (aL n q).toArray] w λe w'=>e=.returned ↑true/\SH B w' (aM n q::L):=xX n q.pb q.cb q.pp q.cp h hv hb hp hm
theorem Qu(st:Ct.St)(n:Ct.Node)(q:Lq)(m:Nat)(hm:m=2+st.aG.length)(h:SH B w (aM n q::L))(hp:Ct.FO st n)(hb:n.aA.length<=1000000):
  Calls prog 79 #[.agg (aL n q).toArray,↑(m:Int)] w λe w'=>e=.returned ↑true/\SH B w' (aM n q::L):=by
 subst hm;exact Ho st n q.pb q.cb q.pp q.cp h hp hb
theorem CD(s:Ct.St)(zs:List (Ct.Node×Lq))(pn pc:Option Addr)(cn cc:Nat)(h:SH B w (aU 118 14 (.slice pn zs.length cn) zs.length (zs.flatMap cB)::aU 43 1 (.slice pc s.cells.length cc) s.cells.length (s.cells.map (Value.int .i64))::bE zs::L))(hzs:zs.map Prod.fst=aW s)(hp:Ct.iV s)(hf:∀n∈aW s,n.aA.length<=1000000/\n.aF.length<=200000000000/\n.aD<18446744073709551616)(hr:s.size<=100000000000):
  Calls prog 58 #[.agg [.slice pn zs.length cn,.slice pc s.cells.length cc,↑(s.gen:Int)].toArray] w λe w'=>e=.returned ↑true/\SH B w' (aU 118 14 (.slice pn zs.length cn) zs.length (zs.flatMap cB)::aU 43 1 (.slice pc s.cells.length cc) s.cells.length (s.cells.map (Value.int .i64))::bE zs::L):=by
 have hz2:=iC hzs
 have hrm:s.aG.length+s.cells.length+s.gen+s.acc<=100000000000:=hr
 have hsort:((aW s).filter Ct.Node.cA).Pairwise _:=hp.oS
 obtain⟨hk0,hk1⟩:=Wb hzs
 refine bZ func58 ntmps58 h λw h=>?_
 refine jX h λb1 w h=>?_
 obtain⟨b2,rfl⟩:=h.fp a1 (by omega)
 refine go h λw h=>?_
 refine st (ld One.h rfl ((h.ro a1).x fN (by decide) (j:=0) (by omega) ({},{}) 0 _ rfl))<|go h λw h=>?_
 refine gT rfl rfl (oE (by omega))<|go h λw h=>?_
 refine gT rfl rfl (oE (by omega))<|go h λw h=>?_
 refine gT rfl rfl (oE (by omega))<|go h λw h=>?_
 refine gT rfl rfl (oE (by omega))<|go h λw h=>?_
 refine gT rfl rfl (oE (by omega))<|st (ld One.h rfl ((h.ro a1).x fN (by decide) (j:=1) (by omega) ({},{}) 0 _ rfl))<|gT rfl rfl (oE (by omega))<|go h λw h=>?_
 refine st (pF rfl (oE (by omega)) rfl)<|go h λw h=>?_
 refine cf rfl (oE (by omega))<|go h λw h=>?_
 refine lp (α:=Nat) (λρ=>(.c 1 ↑b1 (.c 34 (.slice pc s.cells.length cc) (.c 35 ↑(s.cells.length:Int) (.c 36 (.int .i64 (ρ:Int)) .n))))) (λρ w=>SH B w (bl b1 ([.slice (some ⟨b2,0,none⟩) zs.length cn,.slice pc s.cells.length cc,↑(s.gen:Int)]) 78::aU 118 14 (.slice (some ⟨b2,0,none⟩) zs.length cn) zs.length (zs.flatMap cB)::aU 43 1 (.slice pc s.cells.length cc) s.cells.length (s.cells.map (Value.int .i64))::bE zs::L)/\(ρ<=s.cells.length)) (λρ=>s.cells.length-ρ) 0 ⟨rfl,rfl,rfl,rfl,trivial⟩ ⟨h,Xe _⟩ ?_
 rintro k w ⟨h,hk⟩
 refine go h λw h=>?_
 refine qc h (λhd3 w h=>?_) λhd3 w h=>?_
 have hg4:=dA hd3
 refine go h λw h=>?_
 obtain⟨b5,rfl⟩:=h.fp a2 (by omega)
 refine go h λw h=>?_
 refine bA (pB _ _ h.to (by have:=hp.cells _ (fC (i:=k) (l:=s.cells) (d:=0) (by omega));omega)) λw h=>?_
 exact⟨(k+1),⟨rfl,rfl,rfl,rfl,trivial⟩,⟨h,by(try dsimp only);omega⟩,by(try dsimp only);omega⟩
 have hg6:=dP hd3
 refine go h λw h=>?_
 refine sf (mk h fR.h Ss.h rfl rfl (by omega) (by unfold maxLen;omega)) ?_
 rintro _ w ⟨b7,rfl,h⟩
 refine go h λw h=>?_
 rw[rV oN (by decide) (d:=false) rfl]at h
 refine go h λw h=>?_
 refine lp (α:=Nat×List Bool) (λρ=>(.c 1 ↑b1 (.c 5 (.slice (some ⟨b7,0,none⟩) s.cells.length s.cells.length) (.c 52 (.slice (some ⟨b2,0,none⟩) zs.length cn) (.c 53 ↑(zs.length:Int) (.c 54 (.int .i64 (ρ.1:Int)) .n)))))) (λρ w=>SH B w (aU 4 1 (.slice (some ⟨b7,0,none⟩) s.cells.length s.cells.length) s.cells.length (ρ.2.flatMap RP)::bl b1 ([.slice (some ⟨b2,0,none⟩) zs.length cn,.slice pc s.cells.length cc,↑(s.gen:Int)]) 78::aU 118 14 (.slice (some ⟨b2,0,none⟩) zs.length cn) zs.length (zs.flatMap cB)::aU 43 1 (.slice pc s.cells.length cc) s.cells.length (s.cells.map (Value.int .i64))::bE zs::L)/\(Ct.Eu (aW s) ρ.1 ρ.2)/\(ρ.2.length=s.cells.length)/\(ρ.1<=zs.length)) (λρ=>zs.length-ρ.1) (0,List.replicate s.cells.length false) ⟨rfl,rfl,rfl,rfl,rfl,trivial⟩ ⟨h,(Ct.Hf _ _),(List.length_replicate ..),(Xe _)⟩ ?_
 rintro⟨k,bs⟩ w ⟨h,hN,hbs,hk⟩
 dsimp only at *
 refine go h λw h=>?_
 refine qc h (λhd8 w h=>?_) λhd8 w h=>?_
 have hg9:=dA hd8
 refine go h λw h=>?_
 refine st (gJ rfl ((h.ro a2).x fN (by decide) (by omega) ({},{})) Row.h)<|go h λw h=>?_
 refine jA h λb10 w h=>?_
 obtain⟨hm,hkn,hnd⟩:=pP hzs (k:=k) (by omega)
 have hpn:=hp.all _ hm.2
 have hfn:=hf _ hm.2
 have hfb:=hfn.1
 have hfp:=hfn.2.1
 have hfm:=hfn.2.2
 have h:=h.Ll a5 hm.1
 refine go h λw h=>?_
 refine bA (KX _ _ h.to hpn.valid (by omega) (by omega) (by omega)) λw h=>?_
 refine gT rfl rfl (cW (by have:=hpn.gen;omega))<|go h λw h=>?_
 refine gT rfl rfl (cW (by have:=hpn.gen;omega))<|go h λw h=>?_
 refine gT rfl rfl (cW (by have:=hpn.gen;omega))<|go h λw h=>?_
 refine gT rfl rfl (cW (by have:=hpn.gen;omega))<|go h λw h=>?_
 refine gT rfl rfl (cW (by have:=hpn.gen;omega))<|go h λw h=>?_
 refine bA (Qu _ _ _ _ hz2 h.to hpn (by omega)) λw h=>?_
 refine gT rfl rfl (cW (by have:=hpn.gen;omega))<|go h λw h=>?_
 refine st (pF rfl (cW (by have:=hpn.gen;omega)) rfl)<|go h λw h=>?_
 refine bA (AI _ _ h.to) λw h=>?_
 refine qc h (λhd11 w h=>?_) λhd11 w h=>?_
 have hd12:=(lC _).mp hd11
 refine go h λw h=>?_
 exact⟨(k+1,bs),⟨rfl,rfl,rfl,rfl,rfl,trivial⟩,⟨h.drop.drop,(Ct.yI hN),by(try dsimp only);omega,by(try dsimp only);omega⟩,by(try dsimp only);omega⟩
 have hd13:=(Pe _).mp hd11
 refine go h λw h=>?_
 refine gT rfl rfl (cW (by have:=hpn.lo hd13;omega))<|go h λw h=>?_
 refine gT rfl rfl (cW (by have:=hpn.lo hd13;omega))<|go h λw h=>?_
 refine gT rfl rfl (cW (by have:=hpn.lo hd13;omega))<|go h λw h=>?_
 refine gT rfl rfl (cW (by have:=hpn.lo hd13;omega))<|go h λw h=>?_
 refine gT rfl rfl (cW (by have:=hpn.lo hd13;omega))<|go h λw h=>?_
 refine st (pF rfl (cW (by have:=hpn.lo hd13;omega)) rfl)<|go h λw h=>?_
 refine gT rfl rfl (cW (by have:=hpn.lo hd13;omega))<|go h λw h=>?_
 refine gT rfl rfl (cW (by have:=hpn.lo hd13;omega))<|go h λw h=>?_
 refine gT rfl rfl (cW (by have:=hpn.lo hd13;omega))<|go h λw h=>?_
 obtain⟨j,hj⟩:∃j:Nat,(zs.getD k ({},{})).1.gZ -1=(j:Int):=⟨((zs.getD k ({},{})).1.gZ -1).toNat,by have:=hpn.lo hd13;omega⟩
 have hjl:j<s.cells.length:=by have:=hpn.lo hd13;omega
 refine st (bw rfl rfl (zW (c:=(j:Int)) (by omega) (by omega) (by omega)))<|gT rfl rfl (cW (by have:=hpn.lo hd13;omega))<|?_
 refine st (ix (j:=j) OV AU rfl rfl (by omega))<|?_
 refine go h λw h=>?_
 refine st (ld One.h rfl ((h.ro a2).x oN (by decide) (by omega) false 0 _ rfl))<|st (pF rfl (cW (by have:=hpn.lo hd13;omega)) rfl)<|go h λw h=>?_
 refine cf rfl (Ct.Vy hsort hN hkn (by rw[<- hnd];exact hd13) (by rw[<- hnd];exact hj))<|go h λw h=>?_
 refine st (bw rfl rfl (zW (c:=(j:Int)) (by omega) (by omega) (by omega)))<|?_
 refine st (ix (j:=j) OV AU rfl rfl (by omega))<|?_
 refine go h λw h=>?_
 refine sf (ZB (enc:=RP) (a:=true) h Sz.h oN Qh rfl rfl rfl (by omega) (by omega) u2) ?_
 rintro _ w h
 refine go h λw h=>?_
 exact⟨(k+1,bs.set j true),⟨rfl,rfl,rfl,rfl,rfl,trivial⟩,⟨h.drop.drop,(Ct.Je hN hkn (by rw[<- hnd];exact hd13) (by rw[<- hnd];exact hj)),by(try dsimp only);rw[Fh];omega,by(try dsimp only);omega⟩,by(try dsimp only);omega⟩
 have hg14:=dP hd8
 refine go h λw h=>?_
 exact rz ⟨rfl,h.drop.drop⟩
end Go.Q9
end
section
namespace Go.Q9
open Go.Proofs.Tryz
open Go.E
theorem XF:xA prog 78=some 3:=by kernel_rfl
end Go.Q9
end
section
namespace Go.E
variable{B w:World}{L:List As}
theorem SH.C0{el:TypeId}{sz m c:Nat}{p:Option Addr}{xs:List Value}(h:SH B w L)(mm:At L (aU el sz (.slice p m c) m xs))(hp:p.isNone=true):p=none/\m=0/\c=0:=by
 obtain⟨O,R,hA⟩:=h.at_ mm
 rcases hA.1.2 with⟨h1,h2⟩|⟨g,cap,cur,h1,_⟩
 ·injection h1 with h3 h4 h5;exact⟨h3,h2,h5⟩
 ·injection h1 with h3;rw[h3]at hp;cases hp
theorem SH.w9{el:TypeId}{sz m c:Nat}{p:Option Addr}{xs:List Value}(h:SH B w L)(mm:At L (aU el sz (.slice p m c) m xs))(hp:p.isNone=false):∃b,p=some ⟨b,0,none⟩:=by
 obtain⟨O,R,hA⟩:=h.at_ mm
 rcases hA.1.2 with⟨h1,h2⟩|⟨g,cap,cur,h1,_⟩
 ·injection h1 with h3;rw[h3]at hp;cases hp
 ·injection h1 with h3;exact⟨g,h3⟩
theorem SH.l4{el:TypeId}{sz m c:Nat}{p:Option Addr}{xs:List Value}(h:SH B w L)(mm:At L (aU el sz (.slice p m c) m xs)):m<=c:=by
 obtain⟨O,R,hA⟩:=h.at_ mm
 rcases hA.1.2 with⟨h1,h2⟩|⟨g,cap,cur,h1,_,_,h3,_⟩
 ·omega
 ·injection h1 with h4 h5 h6;omega
theorem Rd.ZE{α:Type}{b m sz k:Nat}{enc:α->List Value}{xs:List α}(h:Rd w b 0 sz m (xs.flatMap enc))(he:∀x,(enc x).length=sz)(_hk:k<=m):Rd w b (k*sz) sz (m-k) ((xs.drop k).flatMap enc):=by
 rw[<- rZ he]
 refine⟨by rw[yM,h.1,Nat.sub_mul],λj u hu=>?_⟩
 rw[WI]at hu
 have:=h.2 _ u hu
 rwa [xE]at this
open Go.Q9 in
theorem SH.LP(h:SH B w L):SH B w (bE []::L):=h.new (Kp.refl _ _) (O:=λ_=>False) (R:=λ_=>False) ⟨λ_ h=>h,(λz hz=>by cases hz),λ_ h=>h.elim⟩ (λ_ h=>h.elim) (λ_ h=>h.elim)
end Go.E
namespace Go.Q9
open Go.Proofs.Tryz
open Go.RowKit Go.E
attribute [local irreducible] gB wpS Go.E.X XS C jU kP fin Y U F Ca jT bl rb aU bV ex ce pu sK gK bK zK gM fO dH gP nE
theorem DB{α:Type}(l:List α)(a:α):l.length+1=(l++[a]).length:=by rw[cO];rfl
theorem TO{b c:Nat}(h:c≠2):Go.E.tl (some ⟨b,0,none⟩) c 2 14=some ⟨b,28,none⟩:=by unfold Go.E.tl;rw[if_neg h];rfl
theorem wL{α:Type}{l:List α}{k:Nat}{d:α}(h:k<l.length):l.take k++[l.getD k d]=l.take (k+1):=by
 rw[List.take_add_one,fM h,Fb,fM h];rfl
theorem tail_at{zs:List (Ct.Node×Lq)}{s:Ct.St}{P:Ct.Node->Prop}(h:zs.map Prod.fst=aW s)(hf:∀n∈aW s,P n){k:Nat}(hk:k<zs.length-2):(zs.drop 2).getD k ({},{})∈zs/\P ((zs.drop 2).getD k ({},{})).1/\((zs.drop 2).getD k ({},{})).1=s.aG.getD k {}:=by
 have e:(zs.drop 2).getD k ({},{})=zs.getD (2+k) ({},{}):=by rw[Fb,WI,<- Fb]
 obtain⟨h1,h2,h3⟩:=pP h (k:=2+k) (by omega)
 rw[e]
 refine⟨h1.1,hf _ h1.2,?_⟩
 rw[h3];unfold aW
 rw[show 2+k=k+1+1 by omega,List.getD_cons_succ,List.getD_cons_succ]
variable{B w:World}{L:List As}
theorem xZ(l:List Int)(p:Option Addr)(c:Nat)(h:SH B w (aU 43 1 (.slice p l.length c) l.length (l.map (Value.int .i64))::L))(hl:l.length<=100000000000):
  Calls prog 59 #[.slice p l.length c] w λe w'=>∃p' c',e=.returned (.slice p' l.length c')/\SH B w' (aU 43 1 (.slice p' l.length c') l.length (l.map (Value.int .i64))::aU 43 1 (.slice p l.length c) l.length (l.map (Value.int .i64))::L):=by
 refine bZ func59 ntmps59 h λw h=>?_
 refine st (K6 fR.h rfl rfl)<|go h λw h=>?_
 refine qc h (λhd1 w h=>?_) λhd1 w h=>?_
 refine rz ?_
 have h0:=h.C0 a0 hd1
 obtain⟨h1,h2,h3⟩:=h0
 have hl:l=[]:=List.length_eq_zero_iff.1 h2
 subst hl h1 h3
 exact⟨none,0,rfl,SH.nil 43 1 h⟩
 obtain⟨gb,rfl⟩:=h.w9 a0 hd1
 refine go h λw h=>?_
 refine sf (bu [] h fR.h Ss.h rfl (by kernel_rfl) rfl (by decide) (by decide)) ?_
 rintro _ w ⟨b2,rfl,h⟩
 refine go h λw h=>?_
 refine sf (ap h fR.h rfl Ss.h rfl (by decide) rfl rfl (λ_=>u0) (h.ro a1) (oZ _) (xE _) (Xb _) (by unfold maxLen;omega) (by omega)) ?_
 rintro _ w ⟨p3,c4,rfl,h⟩
 refine go h λw h=>?_
 exact rz ⟨_,_,rfl,h⟩
theorem OT(s:Ct.St)(zs:List (Ct.Node×Lq))(pn pc:Option Addr)(cn cc:Nat)(h:SH B w (aU 118 14 (.slice pn zs.length cn) zs.length (zs.flatMap cB)::aU 43 1 (.slice pc s.cells.length cc) s.cells.length (s.cells.map (Value.int .i64))::bE zs::L))(hzs:zs.map Prod.fst=aW s)(hp:Ct.iV s)(hf:∀n∈aW s,n.aA.length<=1000000/\n.aF.length<=200000000000/\n.aD<18446744073709551616)(hr:s.size<=100000000000):
  Calls prog 34 #[.agg [.slice pn zs.length cn,.slice pc s.cells.length cc,↑(s.gen:Int)].toArray] w λe w'=>∃ab,e=.returned (.tuple #[.pointer (some ⟨ab,0,none⟩),.int .i64 0])/\SH B w' (wW ab {s with acc:=0}::aU 118 14 (.slice pn zs.length cn) zs.length (zs.flatMap cB)::aU 43 1 (.slice pc s.cells.length cc) s.cells.length (s.cells.map (Value.int .i64))::bE zs::L):=by
 have hz2:=iC hzs
 have hrm:s.aG.length+s.cells.length+s.gen+s.acc<=100000000000:=hr
 refine bZ func34 ntmps34 h λw h=>?_
 refine jX h λb1 w h=>?_
 refine bA (CD _ _ _ _ _ _ h.to hzs hp hf hr) λw h=>?_
 refine dZ [1,3,7,9,4,11,12,14] (by kernel_rfl) h (.c r3 .n) λw h=>go h λw h=>?_
 refine AN (xZ _ _ _ h.to (by omega)) λpk2 ck3 w h=>?_
 refine jY h λb4 w h=>?_
 refine st (bs ((zs.length-2:Nat):Int))<|go h λw h=>?_
 refine sf (m9 h fR.h Ss.h rfl rfl (by omega) (by unfold maxLen;omega)) ?_
 rintro _ w ⟨b5,rfl,h⟩
 refine go h λw h=>?_
 obtain⟨b6,rfl⟩:=h.fp a4 (by omega)
 refine go h λw h=>?_
 refine st (YD (k:=2) fR.h Sz.h rfl rfl (by omega) (h.l4 a4))<|go h λw h=>?_
 have h:=SH.LP h
 refine lp (α:=Nat×List (Ct.Node×Lq)×Option Addr×Nat) (λρ=>(.c 4 ↑b4 (.c 27 (.slice (tl (some ⟨b6,0,none⟩) cn 2 14) (zs.length-2) (cn-2)) (.c 28 (.int .i64 ((zs.length-2:Nat):Int)) (.c 29 (.int .i64 (ρ.1:Int)) .n))))) (λρ w=>SH B w (bl b4 ([.slice ρ.2.2.1 ρ.2.1.length ρ.2.2.2,.slice pk2 s.cells.length ck3,↑(s.gen:Int),.int .i64 0]) 100::aU 118 14 (.slice ρ.2.2.1 ρ.2.1.length ρ.2.2.2) ρ.2.1.length (ρ.2.1.flatMap cB)::bE ρ.2.1::aU 43 1 (.slice pk2 s.cells.length ck3) s.cells.length (s.cells.map (Value.int .i64))::aU 43 1 (.slice pc s.cells.length cc) s.cells.length (s.cells.map (Value.int .i64))::aU 118 14 (.slice (some ⟨b6,0,none⟩) zs.length cn) zs.length (zs.flatMap cB)::bE zs::bl b1 ([.slice (some ⟨b6,0,none⟩) zs.length cn,.slice pc s.cells.length cc,↑(s.gen:Int)]) 78::L)/\(ρ.2.1.map Prod.fst=s.aG.take ρ.1)/\(ρ.1<=zs.length-2)) (λρ=>zs.length-2-ρ.1) (0,[],some ⟨b5,0,none⟩,zs.length-2) ⟨rfl,rfl,rfl,rfl,trivial⟩ ⟨h.to,rfl,(Xe _)⟩ ?_
 rintro⟨k,ys,py,cy⟩ w ⟨h,hys,hk⟩
 refine go h λw h=>?_
 refine qc h (λhd7 w h=>?_) λhd7 w h=>?_
 have hg8:=dA hd7
 refine go h λw h=>?_
 rw[show Go.E.tl (some ⟨b6,0,none⟩) cn 2 14=some ⟨b6,28,none⟩from TO (by have:=h.l4 a5;omega)]
 refine go h λw h=>?_
 refine st (gJ rfl ((Rd.ZE (k:=2) (h.ro a5) fN (by omega)).x fN (by decide) (by omega) ({},{})) Row.h)<|go h λw h=>?_
 refine jA h λb9 w h=>?_
 have hyl:ys.length=k:=by rw[<- mI (f:=Prod.fst),hys,Hg];omega
 obtain⟨hm,hfk,hnk⟩:=tail_at hzs hf (k:=k) (by omega)
 have hfb:=hfk.1
 have hfp:=hfk.2.1
 have h:=h.Ll a7 hm
 refine Uc (F:=[bl b4 ([.slice py ys.length cy,.slice pk2 s.cells.length ck3,↑(s.gen:Int),.int .i64 0]) 100,bl b9 (cB ((zs.drop 2).getD k ({},{}))) 118]) [(true,[1,3,5,7,9,11,12,14,16,19,21]),(false,[22])] (by kernel_rfl) h (λw h=>(hC (h.at_ a2) (hC (h.at_ a1) hN))) λw h=>go h λw h=>?_
 refine lH (wP _ _ h.to (by omega) (by omega)) λq10 w h=>?_
 refine ff (bu (aL ((zs.drop 2).getD k ({},{})).1 q10) h fR.h Ss.h rfl (by kernel_rfl) rfl (by decide) (by decide)) ?_
 rintro _ w ⟨b11,rfl,h⟩
 refine gz h λw h=>?_
 refine ff (ap h fR.h rfl Ss.h rfl (by decide) rfl rfl (λ_=>u4) (h.ro a0) (λu hu=>List.all_eq_true.1 (Cl (((zs.drop 2).getD k ({},{})).1,q10)) u hu) (DB ys (((zs.drop 2).getD k ({},{})).1,q10)) (fW (enc:=cB) _ (((zs.drop 2).getD k ({},{})).1,q10)) (by simp only[cO,zG];unfold maxLen;omega) (by simp only[cO,zG];omega)) ?_
 rintro _ w ⟨p12,c13,rfl,h⟩
 refine gz h λw h=>?_
 have h:=h.fr (.c r1 (.c r4 .n))
 have h:=SH.HU (n:=((zs.drop 2).getD k ({},{})).1) (q:=q10) (SH.se (l:=[_,_]) h)
 exact⟨(k+1,ys++[(((zs.drop 2).getD k ({},{})).1,q10)],p12,c13),⟨rfl,rfl,rfl,rfl,trivial⟩,⟨(h.to.fr (.c r1 (.c r1 (.c r0 (.c r0 (.c r0 (.c r0 (.c r0 (.c r0 .n))))))))),by(try dsimp only);rw[tX,hys,List.map_singleton,hnk];exact wL (by omega),by(try dsimp only);omega⟩,by(try dsimp only);omega⟩
 have hg14:=dP hd7
 refine go h λw h=>?_
 refine rr (gE rfl rfl rfl) ?_
 have hy:ys.map Prod.fst=s.aG:=by rw[hys];exact uZ (by omega)
 have h:=SH.ai (s:={s with acc:=0}) ⟨py,cy,pk2,ck3,ys⟩ hy (h.fr (.c r0 (.c r0 (.c r1 (.c r0 .n)))))
 exact⟨b4,rfl,(h.to.fr (.c r0 (.c r1 (.c r0 (.c r0 .n)))))⟩
theorem CN(mb:Nat)(s:Ct.St)(h:SH B w (cR mb s::L))(hr:s.size<=100000000000)(hp:Ct.iV s)(hf:∀n∈aW s,n.aA.length<=1000000/\n.aF.length<=200000000000/\n.aD<18446744073709551616):
  Calls prog 8 #[↑mb] w λe w'=>∃ab,e=.returned (.pointer (some ⟨ab,0,none⟩))/\SH B w' (wW ab {s with acc:=0}::cR mb {s with acc:=0}::L):=by
 obtain⟨⟨pn,cn,pc,cc,zs⟩,hz0,h⟩:=h.mo
 have h:SH B w (bl mb ([.slice pn zs.length cn,.slice pc s.cells.length cc,↑(s.gen:Int),↑(s.acc:Int)]) 80::aU 118 14 (.slice pn zs.length cn) zs.length (zs.flatMap cB)::aU 43 1 (.slice pc s.cells.length cc) s.cells.length (s.cells.map (Value.int .i64))::bE zs::L):=h
 have hzs:zs.map Prod.fst=aW s:=hz0
 clear hz0
 have hz:zs.length=2+s.aG.length:=iC hzs
 have hrm:s.aG.length+s.cells.length+s.gen+s.acc<=100000000000:=hr
 refine bZ func8 ntmps8 h λw h=>?_
 refine st (gJ (cs:=[.slice pn zs.length cn,.slice pc s.cells.length cc,↑(s.gen:Int)]) rfl (eP (h.b a0) 0 rfl) Row.h)<|go h λw h=>?_
 refine cG (OT _ _ _ _ _ _ h.to hzs hp hf hr) λab1 w h=>?_
 exact rz ⟨ab1,rfl,(SH.mi (s:={s with acc:=0}) ⟨pn,cn,pc,cc,zs⟩ hzs h.to).fr (.c r1 .n)⟩
end Go.Q9
end
