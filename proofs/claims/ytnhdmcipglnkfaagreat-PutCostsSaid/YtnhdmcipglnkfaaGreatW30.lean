/- Parts of a proof: Ps4, Vp, Ayk. -/
import Derived.Test.YtnhdmcipglnkfaaGreatW29
set_option linter.unusedVariables false
set_option linter.unusedSimpArgs false
set_option maxRecDepth 100000
set_option maxHeartbeats 4000000
section
namespace Go.E
variable{B w:World}{L:List As}
theorem SH.aNo{el:TypeId}{sz m c:Nat}{p:Option Addr}{xs:List Value}(h:SH B w L)(mm:At L (aV el sz (.slice p m c) m xs))(hp:p.isNone=true):p=none/\m=0/\c=0:=by
 obtain⟨O,R,hA⟩:=h.at_ mm
 rcases hA.1.2 with⟨h1,h2⟩|⟨g,cap,cur,h1,_⟩
 ·injection h1 with h3 h4 h5;exact⟨h3,h2,h5⟩
 ·injection h1 with h3;rw[h3]at hp;cases hp
theorem SH.aOg{el:TypeId}{sz m c:Nat}{p:Option Addr}{xs:List Value}(h:SH B w L)(mm:At L (aV el sz (.slice p m c) m xs))(hp:p.isNone=false):∃b,p=some ⟨b,0,none⟩:=by
 obtain⟨O,R,hA⟩:=h.at_ mm
 rcases hA.1.2 with⟨h1,h2⟩|⟨g,cap,cur,h1,_⟩
 ·injection h1 with h3;rw[h3]at hp;cases hp
 ·injection h1 with h3;exact⟨g,h3⟩
theorem SH.aK2{el:TypeId}{sz m c:Nat}{p:Option Addr}{xs:List Value}(h:SH B w L)(mm:At L (aV el sz (.slice p m c) m xs)):m<=c:=by
 obtain⟨O,R,hA⟩:=h.at_ mm
 rcases hA.1.2 with⟨h1,h2⟩|⟨g,cap,cur,h1,_,_,h3,_⟩
 ·omega
 ·injection h1 with h4 h5 h6;omega
theorem Rd.aJu{α:Type}{b m sz k:Nat}{enc:α->List Value}{xs:List α}(h:Rd w b 0 sz m (xs.flatMap enc))(he:∀x,(enc x).length=sz)(_hk:k<=m):Rd w b (k*sz) sz (m-k) ((xs.drop k).flatMap enc):=by
 rw[<- tR he]
 refine⟨by rw[Bp,h.1,Nat.sub_mul],λj u hu=>?_⟩
 rw[WA]at hu
 have:=h.2 _ u hu
 rwa [wS]at this
open Go.Q9 in
theorem SH.n9(h:SH B w L):SH B w (bH []::L):=h.new (Kp.refl _ _) (O:=λ_=>False) (R:=λ_=>False) ⟨λ_ h=>h,(λz hz=>by cases hz),λ_ h=>h.elim⟩ (λ_ h=>h.elim) (λ_ h=>h.elim)
end Go.E
namespace Go.Q9
open Go.Proofs.Tryz
open Go.RowKit Go.E
attribute [local irreducible] gA wpS Go.E.X XS C kV lL fin Y U F Ca kU bl rb aV bS ex ce pu sK gK bK zK gG fE cZ gY mA
theorem FN{α:Type}(l:List α)(a:α):l.length+1=(l++[a]).length:=by rw[cV];rfl
theorem V7{b c:Nat}(h:c≠2):Go.E.tl (some ⟨b,0,none⟩) c 2 14=some ⟨b,28,none⟩:=by unfold Go.E.tl;rw[if_neg h];rfl
theorem Je{α:Type}{l:List α}{k:Nat}{d:α}(h:k<l.length):l.take k++[l.getD k d]=l.take (k+1):=by
 rw[List.take_add_one,fV h,cK,fV h];rfl
theorem tail_at{zs:List (Ct.Node×Lq)}{s:Ct.St}{P:Ct.Node->Prop}(h:zs.map Prod.fst=aZ s)(hf:∀n∈aZ s,P n){k:Nat}(hk:k<zs.length-2):(zs.drop 2).getD k ({},{})∈zs/\P ((zs.drop 2).getD k ({},{})).1/\((zs.drop 2).getD k ({},{})).1=s.aG.getD k {}:=by
 have e:(zs.drop 2).getD k ({},{})=zs.getD (2+k) ({},{}):=by rw[cK,WA,<- cK]
 obtain⟨h1,h2,h3⟩:=zN h (k:=2+k) (by omega)
 rw[e]
 refine⟨h1.1,hf _ h1.2,?_⟩
 rw[h3];unfold aZ
 rw[show 2+k=k+1+1 by omega,List.getD_cons_succ,List.getD_cons_succ]
theorem j5(s:Ct.St){k:Nat}(hk:k<2+s.aG.length):s.node ((k+1:Nat):Int)=(aZ s).getD k {}:=by
 unfold Ct.St.node Ct.St.nodes aZ
 rw[if_neg (by omega)]
 rcases k with _|_|k
 ·rw[if_pos (by omega)];rfl
 ·rw[if_pos (by omega)];rfl
 ·rw[if_neg (by omega),List.getD_cons_succ,List.getD_cons_succ]
  congr 1
variable{B w:World}{L:List As}
theorem Ds(l:List Int)(p:Option Addr)(c:Nat)(h:SH B w (aV 44 1 (.slice p l.length c) l.length (l.map (Value.int .i64))::L))(hl:l.length<=100000000000):
  Calls prog 46 #[.slice p l.length c] w λe w'=>∃p' c',e=.returned (.slice p' l.length c')/\SH B w' (aV 44 1 (.slice p' l.length c') l.length (l.map (Value.int .i64))::aV 44 1 (.slice p l.length c) l.length (l.map (Value.int .i64))::L):=by
 refine cN func46 ntmps46 h λw h=>?_
 refine st (bnl gB.h rfl rfl)<|go h λw h=>?_
 refine qc h (λdF w h=>?_) λdF w h=>?_
 refine rz ?_
 have h0:=h.aNo a0 dF
 obtain⟨h1,h2,h3⟩:=h0
 have hl:l=[]:=List.length_eq_zero_iff.1 h2
 subst hl h1 h3
 exact⟨none,0,rfl,SH.nil 44 1 h⟩
 obtain⟨gb,rfl⟩:=h.aOg a0 dF
 refine go h λw h=>?_
 refine sf (bu [] h gB.h Ss.h rfl (by kernel_rfl) rfl (by decide) (by decide)) ?_
 rintro _ w ⟨b2,rfl,h⟩
 refine go h λw h=>?_
 refine sf (ap h gB.h rfl Ss.h rfl (by decide) rfl rfl (λ_=>u0) (h.ro a1) (nF _) (wS _) (Qs _) (by unfold maxLen;omega) (by omega)) ?_
 rintro _ w ⟨p3,c4,rfl,h⟩
 refine go h λw h=>?_
 exact rz ⟨_,_,rfl,h⟩
theorem l9(s:Ct.St)(zs:List (Ct.Node×Lq))(pn pc:Option Addr)(cn cc:Nat)(h:SH B w (aV 53 14 (.slice pn zs.length cn) zs.length (zs.flatMap bY)::aV 44 1 (.slice pc s.cells.length cc) s.cells.length (s.cells.map (Value.int .i64))::bH zs::L))(fC:zs.map Prod.fst=aZ s)(hp:Ct.lB s)(hf:∀n∈aZ s,n.aA.length<=1000000/\n.aH.length<=200000000000/\n.aC<18446744073709551616)(hr:s.size<=100000000000):
  Calls prog 35 #[.agg [.slice pn zs.length cn,.slice pc s.cells.length cc,↑(s.gen:Int)].toArray] w λe w'=>∃ab,e=.returned (.tuple #[.pointer (some ⟨ab,0,none⟩),.int .i64 0])/\SH B w' (yD ab {s with acc:=0}::aV 53 14 (.slice pn zs.length cn) zs.length (zs.flatMap bY)::aV 44 1 (.slice pc s.cells.length cc) s.cells.length (s.cells.map (Value.int .i64))::bH zs::L):=by
 have Ud:=iI fC
 have Js:s.aG.length+s.cells.length+s.gen+s.acc<=100000000000:=hr
 refine cN func35 ntmps35 h λw h=>?_
 refine jX h λb1 w h=>?_
 refine bQ (OQ _ _ _ _ _ _ h.to fC hp hf hr) λw h=>?_
 refine fD [1,3,7,9,4,11,12,14] (by kernel_rfl) h (.c r3 .n) λw h=>go h λw h=>?_
 refine LR (Ds _ _ _ h.to (by omega)) λN6 L9 w h=>?_
 refine jY h λb4 w h=>?_
 refine st (bs ((zs.length-2:Nat):Int))<|go h λw h=>?_
 refine sf (mk0 h gB.h Ss.h rfl rfl (by omega) (by unfold maxLen;omega)) ?_
 rintro _ w ⟨b5,rfl,h⟩
 refine go h λw h=>?_
 obtain⟨b6,rfl⟩:=h.fp a4 (by omega)
 refine go h λw h=>?_
 refine st (sll (k:=2) gB.h Sz.h rfl rfl (by omega) (h.aK2 a4))<|go h λw h=>?_
 have h:=SH.n9 h
 refine lp (α:=Nat×List (Ct.Node×Lq)×Option Addr×Nat) (λρ=>(.c 4 ↑b4 (.c 27 (.slice (tl (some ⟨b6,0,none⟩) cn 2 14) (zs.length-2) (cn-2)) (.c 28 (.int .i64 ((zs.length-2:Nat):Int)) (.c 29 (.int .i64 (ρ.1:Int)) .n))))) (λρ w=>SH B w (bl b4 ([.slice ρ.2.2.1 ρ.2.1.length ρ.2.2.2,.slice N6 s.cells.length L9,↑(s.gen:Int),.int .i64 0]) 105::aV 53 14 (.slice ρ.2.2.1 ρ.2.1.length ρ.2.2.2) ρ.2.1.length (ρ.2.1.flatMap bY)::bH ρ.2.1::aV 44 1 (.slice N6 s.cells.length L9) s.cells.length (s.cells.map (Value.int .i64))::aV 44 1 (.slice pc s.cells.length cc) s.cells.length (s.cells.map (Value.int .i64))::aV 53 14 (.slice (some ⟨b6,0,none⟩) zs.length cn) zs.length (zs.flatMap bY)::bH zs::bl b1 ([.slice (some ⟨b6,0,none⟩) zs.length cn,.slice pc s.cells.length cc,↑(s.gen:Int)]) 42::L)/\(ρ.2.1.map Prod.fst=s.aG.take ρ.1)/\(ρ.1<=zs.length-2)) (λρ=>zs.length-2-ρ.1) (0,[],some ⟨b5,0,none⟩,zs.length-2) ⟨rfl,rfl,rfl,rfl,trivial⟩ ⟨h.to,rfl,(bZ _)⟩ ?_
 rintro⟨k,ys,py,cy⟩ w ⟨h,DG,hk⟩
 refine go h λw h=>?_
 refine qc h (λfF w h=>?_) λfF w h=>?_
 have Ua:=dH fF
 refine go h λw h=>?_
 rw[show Go.E.tl (some ⟨b6,0,none⟩) cn 2 14=some ⟨b6,28,none⟩from V7 (by have:=h.aK2 a5;omega)]
 refine go h λw h=>?_
 refine st (kB rfl ((Rd.aJu (k:=2) (h.ro a5) gH (by omega)).x gH (by decide) (by omega) ({},{})) Row.h)<|go h λw h=>?_
 refine jA h λb9 w h=>?_
 have hyl:ys.length=k:=by rw[<- vX (f:=Prod.fst),DG,lI];omega
 obtain⟨hm,hfk,hnk⟩:=tail_at fC hf (k:=k) (by omega)
 have hfb:=hfk.1
 have hfp:=hfk.2.1
 have h:=h.IG a7 hm
 refine DD (F:=[bl b4 ([.slice py ys.length cy,.slice N6 s.cells.length L9,↑(s.gen:Int),.int .i64 0]) 105,bl b9 (bY ((zs.drop 2).getD k ({},{}))) 53]) [(true,[1,3,5,7,9,11,12,14,16,19,21]),(false,[22])] (by kernel_rfl) h (λw h=>(hC (h.at_ a2) (hC (h.at_ a1) hN))) λw h=>go h λw h=>?_
 refine nP (Am _ _ h.to (by omega) (by omega)) λwI w h=>?_
 refine ff (bu (aK ((zs.drop 2).getD k ({},{})).1 wI) h gB.h Ss.h rfl (by kernel_rfl) rfl (by decide) (by decide)) ?_
 rintro _ w ⟨Uf,rfl,h⟩
 refine gz h λw h=>?_
 refine ff (ap h gB.h rfl Ss.h rfl (by decide) rfl rfl (λ_=>u4) (h.ro a0) (λu hu=>List.all_eq_true.1 (Iz (((zs.drop 2).getD k ({},{})).1,wI)) u hu) (FN ys (((zs.drop 2).getD k ({},{})).1,wI)) (jM (enc:=bY) _ (((zs.drop 2).getD k ({},{})).1,wI)) (by simp only[cV,fR];unfold maxLen;omega) (by simp only[cV,fR];omega)) ?_
 rintro _ w ⟨p12,Uh,rfl,h⟩
 refine gz h λw h=>?_
 have h:=h.fr (.c r1 (.c r4 .n))
 have h:=SH.VM (n:=((zs.drop 2).getD k ({},{})).1) (q:=wI) (SH.se (l:=[_,_]) h)
 exact⟨(k+1,ys++[(((zs.drop 2).getD k ({},{})).1,wI)],p12,Uh),⟨rfl,rfl,rfl,rfl,trivial⟩,⟨(h.to.fr (.c r1 (.c r1 (.c r0 (.c r0 (.c r0 (.c r0 (.c r0 (.c r0 .n))))))))),by(try dsimp only);rw[Md,DG,List.map_singleton,hnk];exact Je (by omega),by(try dsimp only);omega⟩,by(try dsimp only);omega⟩
 have CW:=dR fF
 refine go h λw h=>?_
 refine rr (iG rfl rfl rfl) ?_
 have hy:ys.map Prod.fst=s.aG:=by rw[DG];exact xW (by omega)
 have h:=SH.ai (s:={s with acc:=0}) ⟨py,cy,N6,L9,ys⟩ hy (h.fr (.c r0 (.c r0 (.c r1 (.c r0 .n)))))
 exact⟨b4,rfl,(h.to.fr (.c r0 (.c r1 (.c r0 (.c r0 .n)))))⟩
theorem uJ(ab:Nat)(s:Ct.St)(h:SH B w (yD ab s::L))(hr:s.size<=100000000000):
  Calls prog 47 #[↑ab] w λe w'=>e=.returned (.int .i64 ((2+s.aG.length:Nat):Int))/\SH B w' (yD ab s::L):=by
 obtain⟨⟨pn,cn,pc,cc,zs⟩,pN,h⟩:=h.ao
 have hz:zs.length=s.aG.length:=by rw[<- vX (f:=Prod.fst),show zs.map Prod.fst=s.aG from pN]
 have Js:s.aG.length+s.cells.length+s.gen+s.acc<=100000000000:=hr
 refine(Dd ab _ _ _ pn zs.length cn h (by omega)).mono ?_
 rintro e w' ⟨rfl,h⟩
 exact⟨by rw[hz],SH.ai ⟨_,_,_,_,_⟩ pN h⟩
theorem Xp(ab:Nat)(s:Ct.St)(h:SH B w (yD ab s::L))(hr:s.size<=100000000000)(hf:Ct.cL s):
  Calls prog 11 #[↑ab] w λe w'=>∃pn cn pc cc zs,zs.map Prod.fst=aZ s/\e=.returned (.agg [.slice pn zs.length cn,.slice pc s.cells.length cc,↑(s.gen:Int)].toArray)/\SH B w' (aV 53 14 (.slice pn zs.length cn) zs.length (zs.flatMap bY)::aV 44 1 (.slice pc s.cells.length cc) s.cells.length (s.cells.map (Value.int .i64))::bH zs::yD ab s::L):=by
 have Js:s.aG.length+s.cells.length+s.gen+s.acc<=100000000000:=hr
 have hnl:(aZ s).length=2+s.aG.length:=by unfold aZ;simp;omega
 refine cN func11 ntmps11 h λw h=>?_
 refine jA h λb1 w h=>?_
 have h:=h.fr (.c r1 .n)
 obtain⟨⟨pn,cn,pc,cc,zs⟩,pN,h⟩:=h.ao
 have h:SH B w (bl ab ([.slice pn zs.length cn,.slice pc s.cells.length cc,↑(s.gen:Int),↑(s.acc:Int)]) 105::aV 53 14 (.slice pn zs.length cn) zs.length (zs.flatMap bY)::aV 44 1 (.slice pc s.cells.length cc) s.cells.length (s.cells.map (Value.int .i64))::bH zs::bl b1 ([.slice none 0 0,.slice none 0 0,.int .i64 0]) 42::L):=h
 have fC:zs.map Prod.fst=s.aG:=pN
 clear pN
 refine drB (F:=[bl ab ([.slice pn zs.length cn,.slice pc s.cells.length cc,↑(s.gen:Int),↑(s.acc:Int)]) 105]) [1,3,5,7,11,13,15,17] 4 10 [19,20,22] [8,19,22] (by kernel_rfl) h (λw h=>(hC (h.at_ a0) hN)) λw h=>go h λw h=>?_
 refine W3 ?_ ?_
 refine LR (Ds _ _ _ h.to (by omega)) λN6 L9 w h=>?_
 refine jB h λb4 w h=>?_
 have h:=SH.ai ⟨_,_,_,_,_⟩ fC (h.fr (.c r3 (.c r3 (.c r2 (.c r2 .n)))))
 have h:SH B w (yD ab s::bl b4 ([.slice none 0 0,.slice N6 s.cells.length L9,↑(s.gen:Int)]) 42::aV 44 1 (.slice N6 s.cells.length L9) s.cells.length (s.cells.map (Value.int .i64))::bl b1 ([.slice none 0 0,.slice none 0 0,.int .i64 0]) 42::L):=h
 refine go h λw h=>?_
 refine bQ (uJ _ _ h.to hr) λw h=>?_
 refine sf (mk0 h gB.h Ss.h rfl rfl (by omega) (by unfold maxLen;omega)) ?_
 rintro _ w ⟨b5,rfl,h⟩
 refine go h λw h=>?_
 refine bQ (uJ _ _ h.to hr) λw h=>?_
 have h:=SH.n9 h
 refine lp (α:=Nat×List (Ct.Node×Lq)×Option Addr×Nat) (λρ=>(.c 0 ↑ab (.c 2 ↑b1 (.c 3 ↑b4 (.c 20 (.int .i64 ((2+s.aG.length:Nat):Int)) (.c 21 (.int .i64 (ρ.1:Int)) .n)))))) (λρ w=>SH B w (bl b4 ([.slice ρ.2.2.1 ρ.2.1.length ρ.2.2.2,.slice N6 s.cells.length L9,↑(s.gen:Int)]) 42::aV 53 14 (.slice ρ.2.2.1 ρ.2.1.length ρ.2.2.2) ρ.2.1.length (ρ.2.1.flatMap bY)::bH ρ.2.1::yD ab s::aV 44 1 (.slice N6 s.cells.length L9) s.cells.length (s.cells.map (Value.int .i64))::bl b1 ([.slice none 0 0,.slice none 0 0,.int .i64 0]) 42::L)/\(ρ.2.1.map Prod.fst=(aZ s).take ρ.1)/\(ρ.1<=2+s.aG.length)) (λρ=>2+s.aG.length-ρ.1) (0,[],some ⟨b5,0,none⟩,2+s.aG.length) ⟨rfl,rfl,rfl,rfl,rfl,trivial⟩ ⟨h.to,rfl,(bZ _)⟩ ?_
 rintro⟨k,ys,py,cy⟩ w ⟨h,DG,hk⟩
 dsimp only at *
 refine go h λw h=>?_
 refine qc h (λdJ w h=>?_) λdJ w h=>?_
 have El:=dH dJ
 refine go h λw h=>?_
 have hyl:ys.length=k:=by rw[<- vX (f:=Prod.fst),DG,lI,hnl];omega
 refine drZ (F:=[bl b4 ([.slice py ys.length cy,.slice N6 s.cells.length L9,↑(s.gen:Int)]) 42]) [1,3,5,7,9,10,12,14,17] 9 (by kernel_rfl) h (λw h=>(hC (h.at_ a0) hN)) λw h=>go h λw h=>?_
 refine nP (Ic _ _ _ h.to hr hf) λq8 w h=>?_
 refine ff (bu (aK (s.node ((k+1:Nat):Int)) q8) h gB.h Ss.h rfl (by kernel_rfl) rfl (by decide) (by decide)) ?_
 rintro _ w ⟨b9,rfl,h⟩
 refine gz h λw h=>?_
 refine ff (ap h gB.h rfl Ss.h rfl (by decide) rfl rfl (λ_=>u4) (h.ro a0) (λu hu=>List.all_eq_true.1 (Iz (s.node ((k+1:Nat):Int),q8)) u hu) (FN ys (s.node ((k+1:Nat):Int),q8)) (jM (enc:=bY) _ (s.node ((k+1:Nat):Int),q8)) (by simp only[cV,fR];unfold maxLen;omega) (by simp only[cV,fR];omega)) ?_
 rintro _ w ⟨p10,c11,rfl,h⟩
 refine gz h λw h=>?_
 refine xzZ<|go h λw h=>?_
 have h:=h.fr (.c r1 (.c r4 .n))
 have h:=SH.VM (n:=s.node ((k+1:Nat):Int)) (q:=q8) (SH.se (l:=[_,_]) h)
 exact⟨(k+1,ys++[(s.node ((k+1:Nat):Int),q8)],p10,c11),⟨rfl,rfl,rfl,rfl,rfl,trivial⟩,⟨(h.to.fr (.c r2 (.c r2 (.c r0 (.c r0 (.c r0 (.c r0 .n))))))),by(try dsimp only);rw[Md,DG,List.map_singleton,j5 s (by omega)];exact Je (by rw[hnl];omega),by(try dsimp only);omega⟩,by(try dsimp only);omega⟩
 have QK:=dR dJ
 refine go h λw h=>?_
 refine rr (cD rfl rfl (h.b a5) Row.h) ?_
 have hy:ys.map Prod.fst=aZ s:=by rw[DG];exact xW (by rw[hnl];omega)
 exact⟨py,cy,N6,L9,ys,hy,rfl,(h.to.fr (.c r0 (.c r2 (.c r0 (.c r0 .n)))))⟩
 refine jB h λQI w h=>?_
 refine LR (Ds _ _ _ h.to (by omega)) λYG YD w h=>?_
 have h:=SH.ai ⟨_,_,_,_,_⟩ fC (h.fr (.c r3 (.c r3 (.c r1 (.c r2 .n)))))
 have h:SH B w (yD ab s::aV 44 1 (.slice YG s.cells.length YD) s.cells.length (s.cells.map (Value.int .i64))::bl QI ([.slice none 0 0,.slice YG s.cells.length YD,↑(s.gen:Int)]) 42::bl b1 ([.slice none 0 0,.slice none 0 0,.int .i64 0]) 42::L):=h
 refine go h λw h=>?_
 refine bQ (uJ _ _ h.to hr) λw h=>?_
 refine sf (mk0 h gB.h Ss.h rfl rfl (by omega) (by unfold maxLen;omega)) ?_
 rintro _ w ⟨b16,rfl,h⟩
 refine go h λw h=>?_
 refine bQ (uJ _ _ h.to hr) λw h=>?_
 have h:=SH.n9 h
 refine lp (α:=Nat×List (Ct.Node×Lq)×Option Addr×Nat) (λρ=>(.c 0 ↑ab (.c 2 ↑b1 (.c 3 ↑QI (.c 20 (.int .i64 ((2+s.aG.length:Nat):Int)) (.c 21 (.int .i64 (ρ.1:Int)) .n)))))) (λρ w=>SH B w (bl QI ([.slice ρ.2.2.1 ρ.2.1.length ρ.2.2.2,.slice YG s.cells.length YD,↑(s.gen:Int)]) 42::aV 53 14 (.slice ρ.2.2.1 ρ.2.1.length ρ.2.2.2) ρ.2.1.length (ρ.2.1.flatMap bY)::bH ρ.2.1::yD ab s::aV 44 1 (.slice YG s.cells.length YD) s.cells.length (s.cells.map (Value.int .i64))::bl b1 ([.slice none 0 0,.slice none 0 0,.int .i64 0]) 42::L)/\(ρ.2.1.map Prod.fst=(aZ s).take ρ.1)/\(ρ.1<=2+s.aG.length)) (λρ=>2+s.aG.length-ρ.1) (0,[],some ⟨b16,0,none⟩,2+s.aG.length) ⟨rfl,rfl,rfl,rfl,rfl,trivial⟩ ⟨h.to,rfl,(bZ _)⟩ ?_
 rintro⟨k,ys,py,cy⟩ w ⟨h,DG,hk⟩
 dsimp only at *
 refine go h λw h=>?_
 refine qc h (λoR w h=>?_) λoR w h=>?_
 have N0:=dH oR
 refine go h λw h=>?_
 have hyl:ys.length=k:=by rw[<- vX (f:=Prod.fst),DG,lI,hnl];omega
 refine drZ (F:=[bl QI ([.slice py ys.length cy,.slice YG s.cells.length YD,↑(s.gen:Int)]) 42]) [1,3,5,7,9,10,12,14,17] 9 (by kernel_rfl) h (λw h=>(hC (h.at_ a0) hN)) λw h=>go h λw h=>?_
 refine nP (Ic _ _ _ h.to hr hf) λBk w h=>?_
 refine ff (bu (aK (s.node ((k+1:Nat):Int)) Bk) h gB.h Ss.h rfl (by kernel_rfl) rfl (by decide) (by decide)) ?_
 rintro _ w ⟨b20,rfl,h⟩
 refine gz h λw h=>?_
 refine ff (ap h gB.h rfl Ss.h rfl (by decide) rfl rfl (λ_=>u4) (h.ro a0) (λu hu=>List.all_eq_true.1 (Iz (s.node ((k+1:Nat):Int),Bk)) u hu) (FN ys (s.node ((k+1:Nat):Int),Bk)) (jM (enc:=bY) _ (s.node ((k+1:Nat):Int),Bk)) (by simp only[cV,fR];unfold maxLen;omega) (by simp only[cV,fR];omega)) ?_
 rintro _ w ⟨M6,ZI,rfl,h⟩
 refine gz h λw h=>?_
 refine xzZ<|go h λw h=>?_
 have h:=h.fr (.c r1 (.c r4 .n))
 have h:=SH.VM (n:=s.node ((k+1:Nat):Int)) (q:=Bk) (SH.se (l:=[_,_]) h)
 exact⟨(k+1,ys++[(s.node ((k+1:Nat):Int),Bk)],M6,ZI),⟨rfl,rfl,rfl,rfl,rfl,trivial⟩,⟨(h.to.fr (.c r2 (.c r2 (.c r0 (.c r0 (.c r0 (.c r0 .n))))))),by(try dsimp only);rw[Md,DG,List.map_singleton,j5 s (by omega)];exact Je (by rw[hnl];omega),by(try dsimp only);omega⟩,by(try dsimp only);omega⟩
 have aAp:=dR oR
 refine go h λw h=>?_
 refine rr (cD rfl rfl (h.b a5) Row.h) ?_
 have hy:ys.map Prod.fst=aZ s:=by rw[DG];exact xW (by rw[hnl];omega)
 exact⟨py,cy,YG,YD,ys,hy,rfl,(h.to.fr (.c r0 (.c r2 (.c r0 (.c r0 .n)))))⟩
theorem ML(mb:Nat)(s:Ct.St)(h:SH B w (dX mb s::L))(hr:s.size<=100000000000)(hp:Ct.lB s)(hf:∀n∈aZ s,n.aA.length<=1000000/\n.aH.length<=200000000000/\n.aC<18446744073709551616):
  Calls prog 8 #[↑mb] w λe w'=>∃ab,e=.returned (.pointer (some ⟨ab,0,none⟩))/\SH B w' (yD ab {s with acc:=0}::dX mb {s with acc:=0}::L):=by
 obtain⟨⟨pn,cn,pc,cc,zs⟩,pN,h⟩:=h.mo
 have h:SH B w (bl mb ([.slice pn zs.length cn,.slice pc s.cells.length cc,↑(s.gen:Int),↑(s.acc:Int)]) 75::aV 53 14 (.slice pn zs.length cn) zs.length (zs.flatMap bY)::aV 44 1 (.slice pc s.cells.length cc) s.cells.length (s.cells.map (Value.int .i64))::bH zs::L):=h
 have fC:zs.map Prod.fst=aZ s:=pN
 clear pN
 have hz:zs.length=2+s.aG.length:=iI fC
 have Js:s.aG.length+s.cells.length+s.gen+s.acc<=100000000000:=hr
 refine cN func8 ntmps8 h λw h=>?_
 refine st (kB (cs:=[.slice pn zs.length cn,.slice pc s.cells.length cc,↑(s.gen:Int)]) rfl (hX (h.b a0) 0 rfl) Row.h)<|go h λw h=>?_
 refine cS (l9 _ _ _ _ _ _ h.to fC hp hf hr) λab1 w h=>?_
 exact rz ⟨ab1,rfl,(SH.mi (s:={s with acc:=0}) ⟨pn,cn,pc,cc,zs⟩ fC h.to).fr (.c r1 .n)⟩
end Go.Q9
end
section
namespace Go.Ct
def FW(k:Int):Bool:=k==2||(k==3||(k==5||(k==6||k==8)))
theorem W5(n:Node):FW n.kind=n.bD:=by unfold FW Node.bD Node.bG;simp[Bool.or_assoc]
def Ce(s:St)(t:aX):Int:=
 bif (s.node (s.load t.root).2).kind==8 then(bif (s.load (s.node (s.load t.root).2).status).2==1 then(s.node (s.load t.root).2).new else(s.node (s.load t.root).2).dO)else(s.load t.root).2
def rootOf(s:St)(t:aX):Int×Bool:=bif (s.node (Ce s t)).kind != 2 then(0,false)else(Ce s t,true)
def wB(s:St)(i:Int):Int:=(s.load (s.node i).main).2
def rZ(s:St)(i:Int):Int:=(s.load (s.node (wB s i)).prev).2
def Ch(s:St)(i:Int):Int:=bif (s.node (rZ s i)).kind==7 then(s.node (rZ s i)).dO else rZ s i
def cX(s:St)(i:Int):Int×Bool:=
 bif (s.node i).kind != 2 then(0,false)else bif !(s.node (wB s i)).bG then(0,false)else bif rZ s i==0 then(wB s i,true)
 else bif !(s.node (Ch s i)).bG then(0,false)else(Ch s i,true)
structure Flat(s:St)(t:aX)(r m:Int):Prop where
 root:rootOf s t=(r,true)
 lo:1<=r
 hi:r<=((2+s.aG.length:Nat):Int)
 body:cX s r=(m,true)
 kind:(s.node m).kind=3
 br:∀k,k<(s.node m).aA.length->(s.node ((s.node m).aA.getD k 0)).kind=4
end Go.Ct
end
section
namespace Go.Q9
open Go.Proofs.Tryz
open Go.E
end Go.Q9
end
