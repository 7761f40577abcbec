/- Parts of a proof: Ps4, Vp, Ayk. -/
import Derived.Test.YtnhdmcipglnkfaaGreatW30
set_option linter.unusedVariables false
set_option linter.unusedSimpArgs false
set_option maxRecDepth 100000
set_option maxHeartbeats 4000000
section
namespace Go.E
variable{B w:World}{L:List As}
theorem SH.C0{el:TypeId}{sz m c:Nat}{p:Option Addr}{xs:List Value}(h:SH B w L)(mm:At L (aU el sz (.slice p m c) m xs))(hp:p.isNone=true):p=none/\m=0/\c=0:=by
 obtain⟨O,R,hA⟩:=h.at_ mm
 rcases hA.1.2 with⟨h1,h2⟩|⟨g,cap,cur,h1,_⟩
 ·injection h1 with h3 h4 h5;exact⟨h3,h2,h5⟩
 ·injection h1 with h3;rw[h3]at hp;cases hp
theorem SH.w9{el:TypeId}{sz m c:Nat}{p:Option Addr}{xs:List Value}(h:SH B w L)(mm:At L (aU el sz (.slice p m c) m xs))(hp:p.isNone=false):∃b,p=some ⟨b,0,none⟩:=by
 obtain⟨O,R,hA⟩:=h.at_ mm
 rcases hA.1.2 with⟨h1,h2⟩|⟨g,cap,cur,h1,_⟩
 ·injection h1 with h3;rw[h3]at hp;cases hp
 ·injection h1 with h3;exact⟨g,h3⟩
theorem SH.aA5{el:TypeId}{sz m c:Nat}{p:Option Addr}{xs:List Value}(h:SH B w L)(mm:At L (aU el sz (.slice p m c) m xs)):m<=c:=by
 obtain⟨O,R,hA⟩:=h.at_ mm
 rcases hA.1.2 with⟨h1,h2⟩|⟨g,cap,cur,h1,_,_,h3,_⟩
 ·omega
 ·injection h1 with h4 h5 h6;omega
theorem Rd.ZE{α:Type}{b m sz k:Nat}{enc:α->List Value}{xs:List α}(h:Rd w b 0 sz m (xs.flatMap enc))(he:∀x,(enc x).length=sz)(_hk:k<=m):Rd w b (k*sz) sz (m-k) ((xs.drop k).flatMap enc):=by
 rw[<- rZ he]
 refine⟨by rw[Xs,h.1,Nat.sub_mul],λj u hu=>?_⟩
 rw[KQ]at hu
 have:=h.2 _ u hu
 rwa [xE]at this
open Go.Q9 in
theorem SH.LP(h:SH B w L):SH B w (bE []::L):=h.new (Kp.refl _ _) (O:=λ_=>False) (R:=λ_=>False) ⟨λ_ h=>h,(λz hz=>by cases hz),λ_ h=>h.elim⟩ (λ_ h=>h.elim) (λ_ h=>h.elim)
end Go.E
namespace Go.Q9
open Go.Proofs.Tryz
open Go.RowKit Go.E
attribute [local irreducible] gB wpS Go.E.X XS C jU kP fin Y U F Ca jT bl rb aU bV ex ce pu sK gK bK zK gM fO dH gP nE
theorem DB{α:Type}(l:List α)(a:α):l.length+1=(l++[a]).length:=by rw[cO];rfl
theorem TO{b c:Nat}(h:c≠2):Go.E.tl (some ⟨b,0,none⟩) c 2 14=some ⟨b,28,none⟩:=by unfold Go.E.tl;rw[if_neg h];rfl
theorem wL{α:Type}{l:List α}{k:Nat}{d:α}(h:k<l.length):l.take k++[l.getD k d]=l.take (k+1):=by
 rw[List.take_add_one,fM h,dI,fM h];rfl
theorem tail_at{zs:List (Ct.Node×Lq)}{s:Ct.St}{P:Ct.Node->Prop}(h:zs.map Prod.fst=aW s)(hf:∀n∈aW s,P n){k:Nat}(hk:k<zs.length-2):(zs.drop 2).getD k ({},{})∈zs/\P ((zs.drop 2).getD k ({},{})).1/\((zs.drop 2).getD k ({},{})).1=s.aG.getD k {}:=by
 have e:(zs.drop 2).getD k ({},{})=zs.getD (2+k) ({},{}):=by rw[dI,KQ,<- dI]
 obtain⟨h1,h2,h3⟩:=pP h (k:=2+k) (by omega)
 rw[e]
 refine⟨h1.1,hf _ h1.2,?_⟩
 rw[h3];unfold aW
 rw[show 2+k=k+1+1 by omega,List.getD_cons_succ,List.getD_cons_succ]
theorem OD(s:Ct.St){k:Nat}(hk:k<2+s.aG.length):s.node ((k+1:Nat):Int)=(aW s).getD k {}:=by
 unfold Ct.St.node Ct.St.nodes aW
 rw[if_neg (by omega)]
 rcases k with _|_|k
 ·rw[if_pos (by omega)];rfl
 ·rw[if_pos (by omega)];rfl
 ·rw[if_neg (by omega),List.getD_cons_succ,List.getD_cons_succ]
  congr 1
variable{B w:World}{L:List As}
theorem xZ(l:List Int)(p:Option Addr)(c:Nat)(h:SH B w (aU 44 1 (.slice p l.length c) l.length (l.map (Value.int .i64))::L))(hl:l.length<=100000000000):
  Calls prog 46 #[.slice p l.length c] w λe w'=>∃p' c',e=.returned (.slice p' l.length c')/\SH B w' (aU 44 1 (.slice p' l.length c') l.length (l.map (Value.int .i64))::aU 44 1 (.slice p l.length c) l.length (l.map (Value.int .i64))::L):=by
 refine bZ func46 ntmps46 h λw h=>?_
 refine st (K6 fR.h rfl rfl)<|go h λw h=>?_
 refine qc h (λhd1 w h=>?_) λhd1 w h=>?_
 refine rz ?_
 have h0:=h.C0 a0 hd1
 obtain⟨h1,h2,h3⟩:=h0
 have hl:l=[]:=List.length_eq_zero_iff.1 h2
 subst hl h1 h3
 exact⟨none,0,rfl,SH.nil 44 1 h⟩
 obtain⟨gb,rfl⟩:=h.w9 a0 hd1
 refine go h λw h=>?_
 refine sf (bu [] h fR.h Ss.h rfl (by kernel_rfl) rfl (by decide) (by decide)) ?_
 rintro _ w ⟨b2,rfl,h⟩
 refine go h λw h=>?_
 refine sf (ap h fR.h rfl Ss.h rfl (by decide) rfl rfl (λ_=>u0) (h.ro a1) (oZ _) (xE _) (Xb _) (by unfold maxLen;omega) (by omega)) ?_
 rintro _ w ⟨p3,c4,rfl,h⟩
 refine go h λw h=>?_
 exact rz ⟨_,_,rfl,h⟩
theorem OT(s:Ct.St)(zs:List (Ct.Node×Lq))(pn pc:Option Addr)(cn cc:Nat)(h:SH B w (aU 53 14 (.slice pn zs.length cn) zs.length (zs.flatMap cB)::aU 44 1 (.slice pc s.cells.length cc) s.cells.length (s.cells.map (Value.int .i64))::bE zs::L))(hzs:zs.map Prod.fst=aW s)(hp:Ct.iV s)(hf:∀n∈aW s,n.aA.length<=1000000/\n.aF.length<=200000000000/\n.aD<18446744073709551616)(hr:s.size<=100000000000):
  Calls prog 35 #[.agg [.slice pn zs.length cn,.slice pc s.cells.length cc,↑(s.gen:Int)].toArray] w λe w'=>∃ab,e=.returned (.tuple #[.pointer (some ⟨ab,0,none⟩),.int .i64 0])/\SH B w' (wW ab {s with acc:=0}::aU 53 14 (.slice pn zs.length cn) zs.length (zs.flatMap cB)::aU 44 1 (.slice pc s.cells.length cc) s.cells.length (s.cells.map (Value.int .i64))::bE zs::L):=by
 have hz2:=iC hzs
 have hrm:s.aG.length+s.cells.length+s.gen+s.acc<=100000000000:=hr
 refine bZ func35 ntmps35 h λw h=>?_
 refine jX h λb1 w h=>?_
 refine bA (CD _ _ _ _ _ _ h.to hzs hp hf hr) λw h=>?_
 refine dZ [1,3,7,9,4,11,12,14] (by kernel_rfl) h (.c r3 .n) λw h=>go h λw h=>?_
 refine AN (xZ _ _ _ h.to (by omega)) λpk2 ck3 w h=>?_
 refine jY h λb4 w h=>?_
 refine st (bs ((zs.length-2:Nat):Int))<|go h λw h=>?_
 refine sf (mk0 h fR.h Ss.h rfl rfl (by omega) (by unfold maxLen;omega)) ?_
 rintro _ w ⟨b5,rfl,h⟩
 refine go h λw h=>?_
 obtain⟨b6,rfl⟩:=h.fp a4 (by omega)
 refine go h λw h=>?_
 refine st (YD (k:=2) fR.h Sz.h rfl rfl (by omega) (h.aA5 a4))<|go h λw h=>?_
 have h:=SH.LP h
 refine lp (α:=Nat×List (Ct.Node×Lq)×Option Addr×Nat) (λρ=>(.c 4 ↑b4 (.c 27 (.slice (tl (some ⟨b6,0,none⟩) cn 2 14) (zs.length-2) (cn-2)) (.c 28 (.int .i64 ((zs.length-2:Nat):Int)) (.c 29 (.int .i64 (ρ.1:Int)) .n))))) (λρ w=>SH B w (bl b4 ([.slice ρ.2.2.1 ρ.2.1.length ρ.2.2.2,.slice pk2 s.cells.length ck3,↑(s.gen:Int),.int .i64 0]) 105::aU 53 14 (.slice ρ.2.2.1 ρ.2.1.length ρ.2.2.2) ρ.2.1.length (ρ.2.1.flatMap cB)::bE ρ.2.1::aU 44 1 (.slice pk2 s.cells.length ck3) s.cells.length (s.cells.map (Value.int .i64))::aU 44 1 (.slice pc s.cells.length cc) s.cells.length (s.cells.map (Value.int .i64))::aU 53 14 (.slice (some ⟨b6,0,none⟩) zs.length cn) zs.length (zs.flatMap cB)::bE zs::bl b1 ([.slice (some ⟨b6,0,none⟩) zs.length cn,.slice pc s.cells.length cc,↑(s.gen:Int)]) 42::L)/\(ρ.2.1.map Prod.fst=s.aG.take ρ.1)/\(ρ.1<=zs.length-2)) (λρ=>zs.length-2-ρ.1) (0,[],some ⟨b5,0,none⟩,zs.length-2) ⟨rfl,rfl,rfl,rfl,trivial⟩ ⟨h.to,rfl,(dF _)⟩ ?_
 rintro⟨k,ys,py,cy⟩ w ⟨h,hys,hk⟩
 refine go h λw h=>?_
 refine qc h (λhd7 w h=>?_) λhd7 w h=>?_
 have hg8:=eC hd7
 refine go h λw h=>?_
 rw[show Go.E.tl (some ⟨b6,0,none⟩) cn 2 14=some ⟨b6,28,none⟩from TO (by have:=h.aA5 a5;omega)]
 refine go h λw h=>?_
 refine st (gJ rfl ((Rd.ZE (k:=2) (h.ro a5) fN (by omega)).x fN (by decide) (by omega) ({},{})) Row.h)<|go h λw h=>?_
 refine jA h λb9 w h=>?_
 have hyl:ys.length=k:=by rw[<- PQ (f:=Prod.fst),hys,jI];omega
 obtain⟨hm,hfk,hnk⟩:=tail_at hzs hf (k:=k) (by omega)
 have hfb:=hfk.1
 have hfp:=hfk.2.1
 have h:=h.Ll a7 hm
 refine Uc (F:=[bl b4 ([.slice py ys.length cy,.slice pk2 s.cells.length ck3,↑(s.gen:Int),.int .i64 0]) 105,bl b9 (cB ((zs.drop 2).getD k ({},{}))) 53]) [(true,[1,3,5,7,9,11,12,14,16,19,21]),(false,[22])] (by kernel_rfl) h (λw h=>(hC (h.at_ a2) (hC (h.at_ a1) hN))) λw h=>go h λw h=>?_
 refine lH (wP _ _ h.to (by omega) (by omega)) λq10 w h=>?_
 refine ff (bu (aL ((zs.drop 2).getD k ({},{})).1 q10) h fR.h Ss.h rfl (by kernel_rfl) rfl (by decide) (by decide)) ?_
 rintro _ w ⟨b11,rfl,h⟩
 refine gz h λw h=>?_
 refine ff (ap h fR.h rfl Ss.h rfl (by decide) rfl rfl (λ_=>u4) (h.ro a0) (λu hu=>List.all_eq_true.1 (Cl (((zs.drop 2).getD k ({},{})).1,q10)) u hu) (DB ys (((zs.drop 2).getD k ({},{})).1,q10)) (fW (enc:=cB) _ (((zs.drop 2).getD k ({},{})).1,q10)) (by simp only[cO,CG];unfold maxLen;omega) (by simp only[cO,CG];omega)) ?_
 rintro _ w ⟨p12,c13,rfl,h⟩
 refine gz h λw h=>?_
 have h:=h.fr (.c r1 (.c r4 .n))
 have h:=SH.HU (n:=((zs.drop 2).getD k ({},{})).1) (q:=q10) (SH.se (l:=[_,_]) h)
 exact⟨(k+1,ys++[(((zs.drop 2).getD k ({},{})).1,q10)],p12,c13),⟨rfl,rfl,rfl,rfl,trivial⟩,⟨(h.to.fr (.c r1 (.c r1 (.c r0 (.c r0 (.c r0 (.c r0 (.c r0 (.c r0 .n))))))))),by(try dsimp only);rw[An,hys,List.map_singleton,hnk];exact wL (by omega),by(try dsimp only);omega⟩,by(try dsimp only);omega⟩
 have hg14:=cW hd7
 refine go h λw h=>?_
 refine rr (gE rfl rfl rfl) ?_
 have hy:ys.map Prod.fst=s.aG:=by rw[hys];exact MA (by omega)
 have h:=SH.ai (s:={s with acc:=0}) ⟨py,cy,pk2,ck3,ys⟩ hy (h.fr (.c r0 (.c r0 (.c r1 (.c r0 .n)))))
 exact⟨b4,rfl,(h.to.fr (.c r0 (.c r1 (.c r0 (.c r0 .n)))))⟩
theorem qK(ab:Nat)(s:Ct.St)(h:SH B w (wW ab s::L))(hr:s.size<=100000000000):
  Calls prog 47 #[↑ab] w λe w'=>e=.returned (.int .i64 ((2+s.aG.length:Nat):Int))/\SH B w' (wW ab s::L):=by
 obtain⟨⟨pn,cn,pc,cc,zs⟩,hz0,h⟩:=h.ao
 have hz:zs.length=s.aG.length:=by rw[<- PQ (f:=Prod.fst),show zs.map Prod.fst=s.aG from hz0]
 have hrm:s.aG.length+s.cells.length+s.gen+s.acc<=100000000000:=hr
 refine(yS ab _ _ _ pn zs.length cn h (by omega)).mono ?_
 rintro e w' ⟨rfl,h⟩
 exact⟨by rw[hz],SH.ai ⟨_,_,_,_,_⟩ hz0 h⟩
theorem Oi(ab:Nat)(s:Ct.St)(h:SH B w (wW ab s::L))(hr:s.size<=100000000000)(hf:Ct.eK s):
  Calls prog 11 #[↑ab] w λe w'=>∃pn cn pc cc zs,zs.map Prod.fst=aW s/\e=.returned (.agg [.slice pn zs.length cn,.slice pc s.cells.length cc,↑(s.gen:Int)].toArray)/\SH B w' (aU 53 14 (.slice pn zs.length cn) zs.length (zs.flatMap cB)::aU 44 1 (.slice pc s.cells.length cc) s.cells.length (s.cells.map (Value.int .i64))::bE zs::wW ab s::L):=by
 have hrm:s.aG.length+s.cells.length+s.gen+s.acc<=100000000000:=hr
 have hnl:(aW s).length=2+s.aG.length:=by unfold aW;simp;omega
 refine bZ func11 ntmps11 h λw h=>?_
 refine jA h λb1 w h=>?_
 have h:=h.fr (.c r1 .n)
 obtain⟨⟨pn,cn,pc,cc,zs⟩,hz0,h⟩:=h.ao
 have h:SH B w (bl ab ([.slice pn zs.length cn,.slice pc s.cells.length cc,↑(s.gen:Int),↑(s.acc:Int)]) 105::aU 53 14 (.slice pn zs.length cn) zs.length (zs.flatMap cB)::aU 44 1 (.slice pc s.cells.length cc) s.cells.length (s.cells.map (Value.int .i64))::bE zs::bl b1 ([.slice none 0 0,.slice none 0 0,.int .i64 0]) 42::L):=h
 have hzs:zs.map Prod.fst=s.aG:=hz0
 clear hz0
 refine XL (F:=[bl ab ([.slice pn zs.length cn,.slice pc s.cells.length cc,↑(s.gen:Int),↑(s.acc:Int)]) 105]) [1,3,5,7,11,13,15,17] 4 10 [19,20,22] [8,19,22] (by kernel_rfl) h (λw h=>(hC (h.at_ a0) hN)) λw h=>go h λw h=>?_
 refine YJ ?_ ?_
 ·refine AN (xZ _ _ _ h.to (by omega)) λpk2 ck3 w h=>?_
  refine jB h λb4 w h=>?_
  have h:=SH.ai ⟨_,_,_,_,_⟩ hzs (h.fr (.c r3 (.c r3 (.c r2 (.c r2 .n)))))
  have h:SH B w (wW ab s::bl b4 ([.slice none 0 0,.slice pk2 s.cells.length ck3,↑(s.gen:Int)]) 42::aU 44 1 (.slice pk2 s.cells.length ck3) s.cells.length (s.cells.map (Value.int .i64))::bl b1 ([.slice none 0 0,.slice none 0 0,.int .i64 0]) 42::L):=h
  refine go h λw h=>?_
  refine bA (qK _ _ h.to hr) λw h=>?_
  refine sf (mk0 h fR.h Ss.h rfl rfl (by omega) (by unfold maxLen;omega)) ?_
  rintro _ w ⟨b5,rfl,h⟩
  refine go h λw h=>?_
  refine bA (qK _ _ h.to hr) λw h=>?_
  have h:=SH.LP h
  refine lp (α:=Nat×List (Ct.Node×Lq)×Option Addr×Nat) (λρ=>(.c 0 ↑ab (.c 2 ↑b1 (.c 3 ↑b4 (.c 20 (.int .i64 ((2+s.aG.length:Nat):Int)) (.c 21 (.int .i64 (ρ.1:Int)) .n)))))) (λρ w=>SH B w (bl b4 ([.slice ρ.2.2.1 ρ.2.1.length ρ.2.2.2,.slice pk2 s.cells.length ck3,↑(s.gen:Int)]) 42::aU 53 14 (.slice ρ.2.2.1 ρ.2.1.length ρ.2.2.2) ρ.2.1.length (ρ.2.1.flatMap cB)::bE ρ.2.1::wW ab s::aU 44 1 (.slice pk2 s.cells.length ck3) s.cells.length (s.cells.map (Value.int .i64))::bl b1 ([.slice none 0 0,.slice none 0 0,.int .i64 0]) 42::L)/\(ρ.2.1.map Prod.fst=(aW s).take ρ.1)/\(ρ.1<=2+s.aG.length)) (λρ=>2+s.aG.length-ρ.1) (0,[],some ⟨b5,0,none⟩,2+s.aG.length) ⟨rfl,rfl,rfl,rfl,rfl,trivial⟩ ⟨h.to,rfl,(dF _)⟩ ?_
  rintro⟨k,ys,py,cy⟩ w ⟨h,hys,hk⟩
  dsimp only at *
  refine go h λw h=>?_
  refine qc h (λhd6 w h=>?_) λhd6 w h=>?_
  ·have hg7:=eC hd6
   refine go h λw h=>?_
   have hyl:ys.length=k:=by rw[<- PQ (f:=Prod.fst),hys,jI,hnl];omega
   refine drZ (F:=[bl b4 ([.slice py ys.length cy,.slice pk2 s.cells.length ck3,↑(s.gen:Int)]) 42]) [1,3,5,7,9,10,12,14,17] 9 (by kernel_rfl) h (λw h=>(hC (h.at_ a0) hN)) λw h=>go h λw h=>?_
   refine lH (Ey _ _ _ h.to hr hf) λq8 w h=>?_
   refine ff (bu (aL (s.node ((k+1:Nat):Int)) q8) h fR.h Ss.h rfl (by kernel_rfl) rfl (by decide) (by decide)) ?_
   rintro _ w ⟨b9,rfl,h⟩
   refine gz h λw h=>?_
   refine ff (ap h fR.h rfl Ss.h rfl (by decide) rfl rfl (λ_=>u4) (h.ro a0) (λu hu=>List.all_eq_true.1 (Cl (s.node ((k+1:Nat):Int),q8)) u hu) (DB ys (s.node ((k+1:Nat):Int),q8)) (fW (enc:=cB) _ (s.node ((k+1:Nat):Int),q8)) (by simp only[cO,CG];unfold maxLen;omega) (by simp only[cO,CG];omega)) ?_
   rintro _ w ⟨p10,c11,rfl,h⟩
   refine gz h λw h=>?_
   refine xzZ<|go h λw h=>?_
   have h:=h.fr (.c r1 (.c r4 .n))
   have h:=SH.HU (n:=s.node ((k+1:Nat):Int)) (q:=q8) (SH.se (l:=[_,_]) h)
   exact⟨(k+1,ys++[(s.node ((k+1:Nat):Int),q8)],p10,c11),⟨rfl,rfl,rfl,rfl,rfl,trivial⟩,⟨(h.to.fr (.c r2 (.c r2 (.c r0 (.c r0 (.c r0 (.c r0 .n))))))),by(try dsimp only);rw[An,hys,List.map_singleton,OD s (by omega)];exact wL (by rw[hnl];omega),by(try dsimp only);omega⟩,by(try dsimp only);omega⟩
  ·have hg12:=cW hd6
   refine go h λw h=>?_
   refine rr (bP rfl rfl (h.b a5) Row.h) ?_
   have hy:ys.map Prod.fst=aW s:=by rw[hys];exact MA (by rw[hnl];omega)
   exact⟨py,cy,pk2,ck3,ys,hy,rfl,(h.to.fr (.c r0 (.c r2 (.c r0 (.c r0 .n)))))⟩
 ·refine jB h λb13 w h=>?_
  refine AN (xZ _ _ _ h.to (by omega)) λpk14 ck15 w h=>?_
  have h:=SH.ai ⟨_,_,_,_,_⟩ hzs (h.fr (.c r3 (.c r3 (.c r1 (.c r2 .n)))))
  have h:SH B w (wW ab s::aU 44 1 (.slice pk14 s.cells.length ck15) s.cells.length (s.cells.map (Value.int .i64))::bl b13 ([.slice none 0 0,.slice pk14 s.cells.length ck15,↑(s.gen:Int)]) 42::bl b1 ([.slice none 0 0,.slice none 0 0,.int .i64 0]) 42::L):=h
  refine go h λw h=>?_
  refine bA (qK _ _ h.to hr) λw h=>?_
  refine sf (mk0 h fR.h Ss.h rfl rfl (by omega) (by unfold maxLen;omega)) ?_
  rintro _ w ⟨b16,rfl,h⟩
  refine go h λw h=>?_
  refine bA (qK _ _ h.to hr) λw h=>?_
  have h:=SH.LP h
  refine lp (α:=Nat×List (Ct.Node×Lq)×Option Addr×Nat) (λρ=>(.c 0 ↑ab (.c 2 ↑b1 (.c 3 ↑b13 (.c 20 (.int .i64 ((2+s.aG.length:Nat):Int)) (.c 21 (.int .i64 (ρ.1:Int)) .n)))))) (λρ w=>SH B w (bl b13 ([.slice ρ.2.2.1 ρ.2.1.length ρ.2.2.2,.slice pk14 s.cells.length ck15,↑(s.gen:Int)]) 42::aU 53 14 (.slice ρ.2.2.1 ρ.2.1.length ρ.2.2.2) ρ.2.1.length (ρ.2.1.flatMap cB)::bE ρ.2.1::wW ab s::aU 44 1 (.slice pk14 s.cells.length ck15) s.cells.length (s.cells.map (Value.int .i64))::bl b1 ([.slice none 0 0,.slice none 0 0,.int .i64 0]) 42::L)/\(ρ.2.1.map Prod.fst=(aW s).take ρ.1)/\(ρ.1<=2+s.aG.length)) (λρ=>2+s.aG.length-ρ.1) (0,[],some ⟨b16,0,none⟩,2+s.aG.length) ⟨rfl,rfl,rfl,rfl,rfl,trivial⟩ ⟨h.to,rfl,(dF _)⟩ ?_
  rintro⟨k,ys,py,cy⟩ w ⟨h,hys,hk⟩
  dsimp only at *
  refine go h λw h=>?_
  refine qc h (λhd17 w h=>?_) λhd17 w h=>?_
  ·have hg18:=eC hd17
   refine go h λw h=>?_
   have hyl:ys.length=k:=by rw[<- PQ (f:=Prod.fst),hys,jI,hnl];omega
   refine drZ (F:=[bl b13 ([.slice py ys.length cy,.slice pk14 s.cells.length ck15,↑(s.gen:Int)]) 42]) [1,3,5,7,9,10,12,14,17] 9 (by kernel_rfl) h (λw h=>(hC (h.at_ a0) hN)) λw h=>go h λw h=>?_
   refine lH (Ey _ _ _ h.to hr hf) λq19 w h=>?_
   refine ff (bu (aL (s.node ((k+1:Nat):Int)) q19) h fR.h Ss.h rfl (by kernel_rfl) rfl (by decide) (by decide)) ?_
   rintro _ w ⟨b20,rfl,h⟩
   refine gz h λw h=>?_
   refine ff (ap h fR.h rfl Ss.h rfl (by decide) rfl rfl (λ_=>u4) (h.ro a0) (λu hu=>List.all_eq_true.1 (Cl (s.node ((k+1:Nat):Int),q19)) u hu) (DB ys (s.node ((k+1:Nat):Int),q19)) (fW (enc:=cB) _ (s.node ((k+1:Nat):Int),q19)) (by simp only[cO,CG];unfold maxLen;omega) (by simp only[cO,CG];omega)) ?_
   rintro _ w ⟨p21,c22,rfl,h⟩
   refine gz h λw h=>?_
   refine xzZ<|go h λw h=>?_
   have h:=h.fr (.c r1 (.c r4 .n))
   have h:=SH.HU (n:=s.node ((k+1:Nat):Int)) (q:=q19) (SH.se (l:=[_,_]) h)
   exact⟨(k+1,ys++[(s.node ((k+1:Nat):Int),q19)],p21,c22),⟨rfl,rfl,rfl,rfl,rfl,trivial⟩,⟨(h.to.fr (.c r2 (.c r2 (.c r0 (.c r0 (.c r0 (.c r0 .n))))))),by(try dsimp only);rw[An,hys,List.map_singleton,OD s (by omega)];exact wL (by rw[hnl];omega),by(try dsimp only);omega⟩,by(try dsimp only);omega⟩
  ·have hg23:=cW hd17
   refine go h λw h=>?_
   refine rr (bP rfl rfl (h.b a5) Row.h) ?_
   have hy:ys.map Prod.fst=aW s:=by rw[hys];exact MA (by rw[hnl];omega)
   exact⟨py,cy,pk14,ck15,ys,hy,rfl,(h.to.fr (.c r0 (.c r2 (.c r0 (.c r0 .n)))))⟩
theorem CN(mb:Nat)(s:Ct.St)(h:SH B w (cR mb s::L))(hr:s.size<=100000000000)(hp:Ct.iV s)(hf:∀n∈aW s,n.aA.length<=1000000/\n.aF.length<=200000000000/\n.aD<18446744073709551616):
  Calls prog 8 #[↑mb] w λe w'=>∃ab,e=.returned (.pointer (some ⟨ab,0,none⟩))/\SH B w' (wW ab {s with acc:=0}::cR mb {s with acc:=0}::L):=by
 obtain⟨⟨pn,cn,pc,cc,zs⟩,hz0,h⟩:=h.mo
 have h:SH B w (bl mb ([.slice pn zs.length cn,.slice pc s.cells.length cc,↑(s.gen:Int),↑(s.acc:Int)]) 75::aU 53 14 (.slice pn zs.length cn) zs.length (zs.flatMap cB)::aU 44 1 (.slice pc s.cells.length cc) s.cells.length (s.cells.map (Value.int .i64))::bE zs::L):=h
 have hzs:zs.map Prod.fst=aW s:=hz0
 clear hz0
 have hz:zs.length=2+s.aG.length:=iC hzs
 have hrm:s.aG.length+s.cells.length+s.gen+s.acc<=100000000000:=hr
 refine bZ func8 ntmps8 h λw h=>?_
 refine st (gJ (cs:=[.slice pn zs.length cn,.slice pc s.cells.length cc,↑(s.gen:Int)]) rfl (Ek (h.b a0) 0 rfl) Row.h)<|go h λw h=>?_
 refine cG (OT _ _ _ _ _ _ h.to hzs hp hf hr) λab1 w h=>?_
 exact rz ⟨ab1,rfl,(SH.mi (s:={s with acc:=0}) ⟨pn,cn,pc,cc,zs⟩ hzs h.to).fr (.c r1 .n)⟩
end Go.Q9
end
section
namespace Go.Ct
def Vo(k:Int):Bool:=k==2||(k==3||(k==5||(k==6||k==8)))
theorem SK(n:Node):Vo n.kind=n.cA:=by unfold Vo Node.cA Node.bM;simp[Bool.or_assoc]
def Dw(s:St)(t:bC):Int:=
 bif (s.node (s.load t.root).2).kind==8 then(bif (s.load (s.node (s.load t.root).2).status).2==1 then(s.node (s.load t.root).2).new else(s.node (s.load t.root).2).dC)else(s.load t.root).2
def rootOf(s:St)(t:bC):Int×Bool:=bif (s.node (Dw s t)).kind != 2 then(0,false)else(Dw s t,true)
def xR(s:St)(i:Int):Int:=(s.load (s.node i).main).2
def uW(s:St)(i:Int):Int:=(s.load (s.node (xR s i)).prev).2
def Bp(s:St)(i:Int):Int:=bif (s.node (uW s i)).kind==7 then(s.node (uW s i)).dC else uW s i
def jM(s:St)(i:Int):Int×Bool:=
 bif (s.node i).kind != 2 then(0,false)else bif !(s.node (xR s i)).bM then(0,false)else bif uW s i==0 then(xR s i,true)
 else bif !(s.node (Bp s i)).bM then(0,false)else(Bp s i,true)
structure Flat(s:St)(t:bC)(r m:Int):Prop where
 root:rootOf s t=(r,true)
 lo:1<=r
 hi:r<=((2+s.aG.length:Nat):Int)
 body:jM s r=(m,true)
 kind:(s.node m).kind=3
 br:∀k,k<(s.node m).aA.length->(s.node ((s.node m).aA.getD k 0)).kind=4
end Go.Ct
end
section
namespace Go.Q9
open Go.Proofs.Tryz
open Go.E
end Go.Q9
end
