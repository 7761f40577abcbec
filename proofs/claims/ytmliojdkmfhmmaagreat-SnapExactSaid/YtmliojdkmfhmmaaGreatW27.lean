/- Parts of a proof: Ps4, Vp, Ayk, Vw, C5. -/
import Derived.Test.YtmliojdkmfhmmaaGreatW09
import Derived.Test.YtmliojdkmfhmmaaGreatW26
import Derived.Test.YtmliojdkmfhmmaaGreatW04
import Derived.Test.YtmliojdkmfhmmaaGreatW13
import Derived.Test.YtmliojdkmfhmmaaGreatW14
import Derived.Test.YtmliojdkmfhmmaaGreatW16
import Derived.Test.YtmliojdkmfhmmaaGreatW12
import Derived.Test.YtmliojdkmfhmmaaGreatW21
import Derived.Test.YtmliojdkmfhmmaaGreatW17
set_option linter.unusedVariables false
set_option linter.unusedSimpArgs false
set_option maxRecDepth 100000
set_option maxHeartbeats 4000000
section
namespace Go.E
variable {B w : World} {L : List As}
theorem SH.nil0 {el : TypeId} {sz m c : Nat} {p : Option Addr} {xs : List Value} (h : SH B w L) (mm : At L (osl el sz (.slice p m c) m xs)) (hp : p.isNone=true) : p=none∧m=0∧c=0:=by
 obtain ⟨O,R,hA⟩:=h.at_ mm
 rcases hA.1.2 with ⟨h1,h2⟩ | ⟨g,cap,cur,h1,_⟩
 ·injection h1 with h3 h4 h5; exact ⟨h3,h2,h5⟩
 ·injection h1 with h3; rw [h3] at hp; cases hp
theorem SH.own0 {el : TypeId} {sz m c : Nat} {p : Option Addr} {xs : List Value} (h : SH B w L) (mm : At L (osl el sz (.slice p m c) m xs)) (hp : p.isNone=false) : ∃ b,p=some ⟨b,0,none⟩:=by
 obtain ⟨O,R,hA⟩:=h.at_ mm
 rcases hA.1.2 with ⟨h1,h2⟩ | ⟨g,cap,cur,h1,_⟩
 ·injection h1 with h3; rw [h3] at hp; cases hp
 ·injection h1 with h3; exact ⟨g,h3⟩
theorem SH.ocap {el : TypeId} {sz m c : Nat} {p : Option Addr} {xs : List Value} (h : SH B w L) (mm : At L (osl el sz (.slice p m c) m xs)) : m≤c:=by
 obtain ⟨O,R,hA⟩:=h.at_ mm
 rcases hA.1.2 with ⟨h1,h2⟩ | ⟨g,cap,cur,h1,_,_,h3,_⟩
 ·omega
 ·injection h1 with h4 h5 h6; omega
theorem Rd.dropR {α : Type} {b m sz k : Nat} {enc : α→List Value} {xs : List α} (h : Rd w b 0 sz m (xs.flatMap enc)) (he : ∀ x,(enc x).length=sz) (_hk : k≤m) : Rd w b (k * sz) sz (m - k) ((xs.drop k).flatMap enc):=by
 rw [← dropRows he]
 refine ⟨by rw [List.length_drop,h.1,Nat.sub_mul],fun j u hu=>?_⟩
 rw [List.getElem?_drop] at hu
 have:=h.2 _ u hu
 rwa [Nat.zero_add] at this
open Go.Proofs.YtmliojdkmfhmmaaGreat in
theorem SH.nilNs (h : SH B w L) : SH B w (nodesF []::L):=h.new (Kp.refl _ _) (O:=fun _=>False) (R:=fun _=>False) ⟨fun _ h=>h,(fun z hz=>by cases hz),fun _ h=>h.elim⟩ (fun _ h=>h.elim) (fun _ h=>h.elim)
end Go.E
namespace Go.Proofs.YtmliojdkmfhmmaaGreat
attribute [local irreducible] Go.E.wpL Go.E.wpS Go.E.X Go.E.XS Go.E.C Go.E.thn Go.E.blk Go.E.fin Go.E.Y Go.E.U Go.E.F Go.E.Ca Go.E.Res Go.E.bl Go.E.rb Go.E.osl Go.E.rsl Go.E.ex Go.E.ce Go.E.pu Go.E.sK Go.E.gK Go.E.bK Go.E.zK Go.E.boxA Go.E.cloA Go.E.codeA clA cdA
open Go.RowKit Go.E
theorem app1 {α : Type} (l : List α) (a : α) : l.length+1=(l ++ [a]).length:=by rw [List.length_append]; rfl
theorem tl_some {b c : Nat} (h : c≠2) : Go.E.tl (some ⟨b,0,none⟩) c 2 14=some ⟨b,28,none⟩:=by unfold Go.E.tl; rw [if_neg h]; rfl
theorem take_snoc {α : Type} {l : List α} {k : Nat} {d : α} (h : k<l.length) : l.take k ++ [l.getD k d]=l.take (k+1):=by
 rw [List.take_add_one,List.getElem?_eq_getElem h,List.getD_eq_getElem?_getD,List.getElem?_eq_getElem h]; rfl
theorem tail_at {zs : List (Ct.Node × Lq)} {s : Ct.St} {P : Ct.Node→Prop} (h : zs.map Prod.fst=nodesOf s) (hf : ∀ n ∈ nodesOf s,P n) {k : Nat} (hk : k<zs.length - 2) : (zs.drop 2).getD k ({},{}) ∈ zs∧P ((zs.drop 2).getD k ({},{})).1∧((zs.drop 2).getD k ({},{})).1=s.added.getD k {}:=by
 have e : (zs.drop 2).getD k ({},{})=zs.getD (2+k) ({},{}):=by rw [List.getD_eq_getElem?_getD,List.getElem?_drop,← List.getD_eq_getElem?_getD]
 obtain ⟨h1,h2,h3⟩:=nodes_at h (k:=2+k) (by omega)
 rw [e]
 refine ⟨h1.1,hf _ h1.2,?_⟩
 rw [h3]; unfold nodesOf
 rw [show 2+k=k+1+1 by omega,List.getD_cons_succ,List.getD_cons_succ]
theorem node_k (s : Ct.St) {k : Nat} (hk : k<2+s.added.length) : s.node ((k+1 : Nat) : Int)=(nodesOf s).getD k {}:=by
 unfold Ct.St.node Ct.St.nodes nodesOf
 rw [if_neg (by omega)]
 rcases k with _ | _ | k
 ·rw [if_pos (by omega)]; rfl
 ·rw [if_pos (by omega)]; rfl
 ·rw [if_neg (by omega),List.getD_cons_succ,List.getD_cons_succ]
  congr 1
variable {B w : World} {L : List As}
theorem sclone_any (l : List Int) (p : Option Addr) (c : Nat) (h : SH B w (osl 36 1 (.slice p l.length c) l.length (l.map (Value.int .i64))::L)) (hl : l.length≤100000000000) :
  Calls Tryz.prog 63 #[.slice p l.length c] w fun e w'=>∃ p' c',e=.returned (.slice p' l.length c')∧SH B w' (osl 36 1 (.slice p' l.length c') l.length (l.map (Value.int .i64))::osl 36 1 (.slice p l.length c) l.length (l.map (Value.int .i64))::L):=by
 refine bn0 Tryz.func63 Tryz.ntmps63 h fun w h=>?_
 refine st (bnl Slc.h rfl rfl)<|go h fun w h=>?_
 refine qc h (fun hd1 w h=>?_) fun hd1 w h=>?_
 refine rz ?_
 have h0:=h.nil0 a0 hd1
 obtain ⟨h1,h2,h3⟩:=h0
 have hl : l=[]:=List.length_eq_zero_iff.1 h2
 subst hl h1 h3
 exact ⟨none,0,rfl,SH.nil 36 1 h⟩
 obtain ⟨gb,rfl⟩:=h.own0 a0 hd1
 refine go h fun w h=>?_
 refine sf (bu [] h Slc.h Ss.h rfl (by kernel_rfl) rfl (by decide) (by decide)) ?_
 rintro _ w ⟨b2,rfl,h⟩
 refine go h fun w h=>?_
 refine sf (ap h Slc.h rfl Ss.h rfl (by decide) rfl rfl (fun _=>u0) (h.ro a1) (ones_ints _) (Nat.zero_add _) (List.nil_append _) (by unfold maxLen; omega) (by omega)) ?_
 rintro _ w ⟨p3,c4,rfl,h⟩
 refine go h fun w h=>?_
 exact rz ⟨_,_,rfl,h⟩
theorem of_any (s : Ct.St) (zs : List (Ct.Node × Lq)) (pn pc : Option Addr) (cn cc : Nat) (h : SH B w (osl 77 14 (.slice pn zs.length cn) zs.length (zs.flatMap nodeP)::osl 36 1 (.slice pc s.cells.length cc) s.cells.length (s.cells.map (Value.int .i64))::nodesF zs::L)) (hzs : zs.map Prod.fst=nodesOf s) (hp : Ct.Proper s) (hf : ∀ n ∈ nodesOf s,n.branches.length≤1000000∧n.pairs.length≤200000000000∧n.bitmap<18446744073709551616) (hr : s.size≤100000000000) :
  Calls Tryz.prog 49 #[.agg [.slice pn zs.length cn,.slice pc s.cells.length cc,.int .i64 ((s.gen : Nat) : Int)].toArray] w fun e w'=>∃ ab,e=.returned (.tuple #[.pointer (some ⟨ab,0,none⟩),.int .i64 0])∧SH B w' (arA ab { s with acc:=0 }::osl 77 14 (.slice pn zs.length cn) zs.length (zs.flatMap nodeP)::osl 36 1 (.slice pc s.cells.length cc) s.cells.length (s.cells.map (Value.int .i64))::nodesF zs::L):=by
 have hz2:=zs_len hzs
 have hrm : s.added.length+s.cells.length+s.gen+s.acc≤100000000000:=hr
 refine bn0 Tryz.func49 Tryz.ntmps49 h fun w h=>?_
 refine jX h fun b1 w h=>?_
 refine j000 (proper_any _ _ _ _ _ _ h.to hzs hp hf hr) fun w h=>?_
 refine drH [1,3,7,9,4,11,12,14] (by kernel_rfl) h (.c r3 .n) fun w h=>go h fun w h=>?_
 refine s200 (sclone_any _ _ _ h.to (by omega)) fun pk2 ck3 w h=>?_
 refine jY h fun b4 w h=>?_
 refine st (bs ((zs.length - 2 : Nat) : Int))<|go h fun w h=>?_
 refine sf (mk0 h Slc.h Ss.h rfl rfl (by omega) (by unfold maxLen; omega)) ?_
 rintro _ w ⟨b5,rfl,h⟩
 refine go h fun w h=>?_
 obtain ⟨b6,rfl⟩:=h.fp a4 (by omega)
 refine go h fun w h=>?_
 refine st (sll (k:=2) Slc.h Sz.h rfl rfl (by omega) (h.ocap a4))<|go h fun w h=>?_
 have h:=SH.nilNs h
 refine lp (α:=Nat × List (Ct.Node × Lq) × Option Addr × Nat) (fun ρ=>(.c 4 (.pointer (some ⟨b4,0,none⟩)) (.c 27 (.slice (tl (some ⟨b6,0,none⟩) cn 2 14) (zs.length - 2) (cn - 2)) (.c 28 (.int .i64 ((zs.length - 2 : Nat) : Int)) (.c 29 (.int .i64 ((ρ.1 : Nat) : Int)) .n))))) (fun ρ w=>SH B w (bl b4 ([.slice ρ.2.2.1 ρ.2.1.length ρ.2.2.2,.slice pk2 s.cells.length ck3,.int .i64 ((s.gen : Nat) : Int),.int .i64 0]) 128::osl 77 14 (.slice ρ.2.2.1 ρ.2.1.length ρ.2.2.2) ρ.2.1.length (ρ.2.1.flatMap nodeP)::nodesF ρ.2.1::osl 36 1 (.slice pk2 s.cells.length ck3) s.cells.length (s.cells.map (Value.int .i64))::osl 36 1 (.slice pc s.cells.length cc) s.cells.length (s.cells.map (Value.int .i64))::osl 77 14 (.slice (some ⟨b6,0,none⟩) zs.length cn) zs.length (zs.flatMap nodeP)::nodesF zs::bl b1 ([.slice (some ⟨b6,0,none⟩) zs.length cn,.slice pc s.cells.length cc,.int .i64 ((s.gen : Nat) : Int)]) 62::L)∧(ρ.2.1.map Prod.fst=s.added.take ρ.1)∧(ρ.1≤zs.length - 2)) (fun ρ=>zs.length - 2 - ρ.1) (0,[],some ⟨b5,0,none⟩,zs.length - 2) ⟨rfl,rfl,rfl,rfl,trivial⟩ ⟨h.to,rfl,(Nat.zero_le _)⟩ ?_
 rintro ⟨k,ys,py,cy⟩ w ⟨h,hys,hk⟩
 dsimp only at *
 refine go h fun w h=>?_
 refine qc h (fun hd7 w h=>?_) fun hd7 w h=>?_
 have hg8:=of_decide_eq_true hd7
 refine go h fun w h=>?_
 rw [show Go.E.tl (some ⟨b6,0,none⟩) cn 2 14=some ⟨b6,28,none⟩ from tl_some (by have:=h.ocap a5; omega)]
 refine go h fun w h=>?_
 refine st (ldr rfl ((Rd.dropR (k:=2) (h.ro a5) nodeP_len (by omega)).x nodeP_len (by decide) (by omega) ({},{})) Row.h)<|go h fun w h=>?_
 refine jA h fun b9 w h=>?_
 have hyl : ys.length=k:=by rw [← List.length_map (f:=Prod.fst),hys,List.length_take]; omega
 obtain ⟨hm,hfk,hnk⟩:=tail_at hzs hf (k:=k) (by omega)
 have hfb:=hfk.1
 have hfp:=hfk.2.1
 have h:=h.getN a7 hm
 refine drG (F:=[bl b4 ([.slice py ys.length cy,.slice pk2 s.cells.length ck3,.int .i64 ((s.gen : Nat) : Int),.int .i64 0]) 128,bl b9 (nodeP ((zs.drop 2).getD k ({},{}))) 77]) [(true,[1,3,5,7,9,11,12,14,16,19,21]),(false,[22])] (by kernel_rfl) h (fun w h=>(hC (h.at_ a2) (hC (h.at_ a1) hN))) fun w h=>go h fun w h=>?_
 refine s100 (clone_any _ _ h.to (by omega) (by omega)) fun q10 w h=>?_
 refine ff (bu (nodeC ((zs.drop 2).getD k ({},{})).1 q10) h Slc.h Ss.h rfl (by kernel_rfl) rfl (by decide) (by decide)) ?_
 rintro _ w ⟨b11,rfl,h⟩
 refine gz h fun w h=>?_
 refine ff (ap h Slc.h rfl Ss.h rfl (by decide) rfl rfl (fun _=>u4) (h.ro a0) (fun u hu=>List.all_eq_true.1 (nodeP_one (((zs.drop 2).getD k ({},{})).1,q10)) u hu) (app1 ys (((zs.drop 2).getD k ({},{})).1,q10)) (join_rows (enc:=nodeP) _ (((zs.drop 2).getD k ({},{})).1,q10)) (by simp only [List.length_append,List.length_singleton]; unfold maxLen; omega) (by simp only [List.length_append,List.length_singleton]; omega)) ?_
 rintro _ w ⟨p12,c13,rfl,h⟩
 refine gz h fun w h=>?_
 have h:=h.fr (.c r1 (.c r4 .n))
 have h:=SH.addN (n:=((zs.drop 2).getD k ({},{})).1) (q:=q10) (SH.se (l:=[_,_]) h)
 have hlen : (ys ++ [(((zs.drop 2).getD k ({},{})).1,q10)]).length=ys.length+1:=by rw [List.length_append]; rfl
 exact ⟨(k+1,ys ++ [(((zs.drop 2).getD k ({},{})).1,q10)],p12,c13),⟨rfl,rfl,rfl,rfl,trivial⟩,⟨(h.to.fr (.c r1 (.c r1 (.c r0 (.c r0 (.c r0 (.c r0 (.c r0 (.c r0 .n))))))))),by (try dsimp only); rw [List.map_append,hys,List.map_singleton,hnk]; exact take_snoc (by omega),by (try dsimp only); omega⟩,by (try dsimp only); omega⟩
 have hg14:=of_decide_eq_false hd7
 refine go h fun w h=>?_
 refine rr (res2 rfl rfl rfl) ?_
 have hy : ys.map Prod.fst=s.added:=by rw [hys]; exact List.take_of_length_le (by omega)
 have h:=SH.ai (s:={ s with acc:=0 }) ⟨py,cy,pk2,ck3,ys⟩ hy (h.fr (.c r0 (.c r0 (.c r1 (.c r0 .n)))))
 exact ⟨b4,rfl,(h.to.fr (.c r0 (.c r1 (.c r0 (.c r0 .n)))))⟩
theorem anodesA_any (ab : Nat) (s : Ct.St) (h : SH B w (arA ab s::L)) (hr : s.size≤100000000000) :
  Calls Tryz.prog 62 #[.pointer (some ⟨ab,0,none⟩)] w fun e w'=>e=.returned (.int .i64 ((2+s.added.length : Nat) : Int))∧SH B w' (arA ab s::L):=by
 obtain ⟨⟨pn,cn,pc,cc,zs⟩,hz0,h⟩:=h.ao
 have hz : zs.length=s.added.length:=by rw [← List.length_map (f:=Prod.fst),show zs.map Prod.fst=s.added from hz0]
 have hrm : s.added.length+s.cells.length+s.gen+s.acc≤100000000000:=hr
 refine (anodes_any ab _ _ _ pn zs.length cn h (by omega)).mono ?_
 rintro e w' ⟨rfl,h⟩
 exact ⟨by rw [hz],SH.ai ⟨_,_,_,_,_⟩ hz0 h⟩
theorem state_any (ab : Nat) (s : Ct.St) (h : SH B w (arA ab s::L)) (hr : s.size≤100000000000) (hf : Ct.AllFit s) :
  Calls Tryz.prog 25 #[.pointer (some ⟨ab,0,none⟩)] w fun e w'=>∃ pn cn pc cc zs,zs.map Prod.fst=nodesOf s∧e=.returned (.agg [.slice pn zs.length cn,.slice pc s.cells.length cc,.int .i64 ((s.gen : Nat) : Int)].toArray)∧SH B w' (osl 77 14 (.slice pn zs.length cn) zs.length (zs.flatMap nodeP)::osl 36 1 (.slice pc s.cells.length cc) s.cells.length (s.cells.map (Value.int .i64))::nodesF zs::arA ab s::L):=by
 have hrm : s.added.length+s.cells.length+s.gen+s.acc≤100000000000:=hr
 have hnl : (nodesOf s).length=2+s.added.length:=by unfold nodesOf; simp; omega
 refine bn0 Tryz.func25 Tryz.ntmps25 h fun w h=>?_
 refine jA h fun b1 w h=>?_
 have h:=h.fr (.c r1 .n)
 obtain ⟨⟨pn,cn,pc,cc,zs⟩,hz0,h⟩:=h.ao
 have h : SH B w (bl ab ([.slice pn zs.length cn,.slice pc s.cells.length cc,.int .i64 ((s.gen : Nat) : Int),.int .i64 ((s.acc : Nat) : Int)]) 128::osl 77 14 (.slice pn zs.length cn) zs.length (zs.flatMap nodeP)::osl 36 1 (.slice pc s.cells.length cc) s.cells.length (s.cells.map (Value.int .i64))::nodesF zs::bl b1 ([.slice none 0 0,.slice none 0 0,.int .i64 0]) 62::L):=h
 have hzs : zs.map Prod.fst=s.added:=hz0
 clear hz0
 refine drB (F:=[bl ab ([.slice pn zs.length cn,.slice pc s.cells.length cc,.int .i64 ((s.gen : Nat) : Int),.int .i64 ((s.acc : Nat) : Int)]) 128]) [1,3,5,7,11,13,15,17] 4 10 [19,20,22] [8,19,22] (by kernel_rfl) h (fun w h=>(hC (h.at_ a0) hN)) fun w h=>go h fun w h=>?_
 refine xzB ?_ ?_
 refine s200 (sclone_any _ _ _ h.to (by omega)) fun pk2 ck3 w h=>?_
 refine jB h fun b4 w h=>?_
 have h:=SH.ai ⟨_,_,_,_,_⟩ hzs (h.fr (.c r3 (.c r3 (.c r2 (.c r2 .n)))))
 have h : SH B w (arA ab s::bl b4 ([.slice none 0 0,.slice pk2 s.cells.length ck3,.int .i64 ((s.gen : Nat) : Int)]) 62::osl 36 1 (.slice pk2 s.cells.length ck3) s.cells.length (s.cells.map (Value.int .i64))::bl b1 ([.slice none 0 0,.slice none 0 0,.int .i64 0]) 62::L):=h
 refine go h fun w h=>?_
 refine j000 (anodesA_any _ _ h.to hr) fun w h=>?_
 refine sf (mk0 h Slc.h Ss.h rfl rfl (by omega) (by unfold maxLen; omega)) ?_
 rintro _ w ⟨b5,rfl,h⟩
 refine go h fun w h=>?_
 refine j000 (anodesA_any _ _ h.to hr) fun w h=>?_
 have h:=SH.nilNs h
 refine lp (α:=Nat × List (Ct.Node × Lq) × Option Addr × Nat) (fun ρ=>(.c 0 (.pointer (some ⟨ab,0,none⟩)) (.c 2 (.pointer (some ⟨b1,0,none⟩)) (.c 3 (.pointer (some ⟨b4,0,none⟩)) (.c 20 (.int .i64 ((2+s.added.length : Nat) : Int)) (.c 21 (.int .i64 ((ρ.1 : Nat) : Int)) .n)))))) (fun ρ w=>SH B w (bl b4 ([.slice ρ.2.2.1 ρ.2.1.length ρ.2.2.2,.slice pk2 s.cells.length ck3,.int .i64 ((s.gen : Nat) : Int)]) 62::osl 77 14 (.slice ρ.2.2.1 ρ.2.1.length ρ.2.2.2) ρ.2.1.length (ρ.2.1.flatMap nodeP)::nodesF ρ.2.1::arA ab s::osl 36 1 (.slice pk2 s.cells.length ck3) s.cells.length (s.cells.map (Value.int .i64))::bl b1 ([.slice none 0 0,.slice none 0 0,.int .i64 0]) 62::L)∧(ρ.2.1.map Prod.fst=(nodesOf s).take ρ.1)∧(ρ.1≤2+s.added.length)) (fun ρ=>2+s.added.length - ρ.1) (0,[],some ⟨b5,0,none⟩,2+s.added.length) ⟨rfl,rfl,rfl,rfl,rfl,trivial⟩ ⟨h.to,rfl,(Nat.zero_le _)⟩ ?_
 rintro ⟨k,ys,py,cy⟩ w ⟨h,hys,hk⟩
 dsimp only at *
 refine go h fun w h=>?_
 refine qc h (fun hd6 w h=>?_) fun hd6 w h=>?_
 have hg7:=of_decide_eq_true hd6
 refine go h fun w h=>?_
 have hyl : ys.length=k:=by rw [← List.length_map (f:=Prod.fst),hys,List.length_take,hnl]; omega
 refine drZ (F:=[bl b4 ([.slice py ys.length cy,.slice pk2 s.cells.length ck3,.int .i64 ((s.gen : Nat) : Int)]) 62]) [1,3,5,7,9,10,12,14,17] 9 (by kernel_rfl) h (fun w h=>(hC (h.at_ a0) hN)) fun w h=>go h fun w h=>?_
 refine s100 (anode_any _ _ _ h.to hr hf) fun q8 w h=>?_
 refine ff (bu (nodeC (s.node ((k+1 : Nat) : Int)) q8) h Slc.h Ss.h rfl (by kernel_rfl) rfl (by decide) (by decide)) ?_
 rintro _ w ⟨b9,rfl,h⟩
 refine gz h fun w h=>?_
 refine ff (ap h Slc.h rfl Ss.h rfl (by decide) rfl rfl (fun _=>u4) (h.ro a0) (fun u hu=>List.all_eq_true.1 (nodeP_one (s.node ((k+1 : Nat) : Int),q8)) u hu) (app1 ys (s.node ((k+1 : Nat) : Int),q8)) (join_rows (enc:=nodeP) _ (s.node ((k+1 : Nat) : Int),q8)) (by simp only [List.length_append,List.length_singleton]; unfold maxLen; omega) (by simp only [List.length_append,List.length_singleton]; omega)) ?_
 rintro _ w ⟨p10,c11,rfl,h⟩
 refine gz h fun w h=>?_
 refine xzZ<|go h fun w h=>?_
 have h:=h.fr (.c r1 (.c r4 .n))
 have h:=SH.addN (n:=s.node ((k+1 : Nat) : Int)) (q:=q8) (SH.se (l:=[_,_]) h)
 exact ⟨(k+1,ys ++ [(s.node ((k+1 : Nat) : Int),q8)],p10,c11),⟨rfl,rfl,rfl,rfl,rfl,trivial⟩,⟨(h.to.fr (.c r2 (.c r2 (.c r0 (.c r0 (.c r0 (.c r0 .n))))))),by (try dsimp only); rw [List.map_append,hys,List.map_singleton,node_k s (by omega)]; exact take_snoc (by rw [hnl]; omega),by (try dsimp only); omega⟩,by (try dsimp only); omega⟩
 have hg12:=of_decide_eq_false hd6
 refine go h fun w h=>?_
 refine rr (resC rfl rfl (h.b a5) Row.h) ?_
 have hy : ys.map Prod.fst=nodesOf s:=by rw [hys]; exact List.take_of_length_le (by rw [hnl]; omega)
 exact ⟨py,cy,pk2,ck3,ys,hy,rfl,(h.to.fr (.c r0 (.c r2 (.c r0 (.c r0 .n)))))⟩
 refine jB h fun b13 w h=>?_
 refine s200 (sclone_any _ _ _ h.to (by omega)) fun pk14 ck15 w h=>?_
 have h:=SH.ai ⟨_,_,_,_,_⟩ hzs (h.fr (.c r3 (.c r3 (.c r1 (.c r2 .n)))))
 have h : SH B w (arA ab s::osl 36 1 (.slice pk14 s.cells.length ck15) s.cells.length (s.cells.map (Value.int .i64))::bl b13 ([.slice none 0 0,.slice pk14 s.cells.length ck15,.int .i64 ((s.gen : Nat) : Int)]) 62::bl b1 ([.slice none 0 0,.slice none 0 0,.int .i64 0]) 62::L):=h
 refine go h fun w h=>?_
 refine j000 (anodesA_any _ _ h.to hr) fun w h=>?_
 refine sf (mk0 h Slc.h Ss.h rfl rfl (by omega) (by unfold maxLen; omega)) ?_
 rintro _ w ⟨b16,rfl,h⟩
 refine go h fun w h=>?_
 refine j000 (anodesA_any _ _ h.to hr) fun w h=>?_
 have h:=SH.nilNs h
 refine lp (α:=Nat × List (Ct.Node × Lq) × Option Addr × Nat) (fun ρ=>(.c 0 (.pointer (some ⟨ab,0,none⟩)) (.c 2 (.pointer (some ⟨b1,0,none⟩)) (.c 3 (.pointer (some ⟨b13,0,none⟩)) (.c 20 (.int .i64 ((2+s.added.length : Nat) : Int)) (.c 21 (.int .i64 ((ρ.1 : Nat) : Int)) .n)))))) (fun ρ w=>SH B w (bl b13 ([.slice ρ.2.2.1 ρ.2.1.length ρ.2.2.2,.slice pk14 s.cells.length ck15,.int .i64 ((s.gen : Nat) : Int)]) 62::osl 77 14 (.slice ρ.2.2.1 ρ.2.1.length ρ.2.2.2) ρ.2.1.length (ρ.2.1.flatMap nodeP)::nodesF ρ.2.1::arA ab s::osl 36 1 (.slice pk14 s.cells.length ck15) s.cells.length (s.cells.map (Value.int .i64))::bl b1 ([.slice none 0 0,.slice none 0 0,.int .i64 0]) 62::L)∧(ρ.2.1.map Prod.fst=(nodesOf s).take ρ.1)∧(ρ.1≤2+s.added.length)) (fun ρ=>2+s.added.length - ρ.1) (0,[],some ⟨b16,0,none⟩,2+s.added.length) ⟨rfl,rfl,rfl,rfl,rfl,trivial⟩ ⟨h.to,rfl,(Nat.zero_le _)⟩ ?_
 rintro ⟨k,ys,py,cy⟩ w ⟨h,hys,hk⟩
 dsimp only at *
 refine go h fun w h=>?_
 refine qc h (fun hd17 w h=>?_) fun hd17 w h=>?_
 have hg18:=of_decide_eq_true hd17
 refine go h fun w h=>?_
 have hyl : ys.length=k:=by rw [← List.length_map (f:=Prod.fst),hys,List.length_take,hnl]; omega
 refine drZ (F:=[bl b13 ([.slice py ys.length cy,.slice pk14 s.cells.length ck15,.int .i64 ((s.gen : Nat) : Int)]) 62]) [1,3,5,7,9,10,12,14,17] 9 (by kernel_rfl) h (fun w h=>(hC (h.at_ a0) hN)) fun w h=>go h fun w h=>?_
 refine s100 (anode_any _ _ _ h.to hr hf) fun q19 w h=>?_
 refine ff (bu (nodeC (s.node ((k+1 : Nat) : Int)) q19) h Slc.h Ss.h rfl (by kernel_rfl) rfl (by decide) (by decide)) ?_
 rintro _ w ⟨b20,rfl,h⟩
 refine gz h fun w h=>?_
 refine ff (ap h Slc.h rfl Ss.h rfl (by decide) rfl rfl (fun _=>u4) (h.ro a0) (fun u hu=>List.all_eq_true.1 (nodeP_one (s.node ((k+1 : Nat) : Int),q19)) u hu) (app1 ys (s.node ((k+1 : Nat) : Int),q19)) (join_rows (enc:=nodeP) _ (s.node ((k+1 : Nat) : Int),q19)) (by simp only [List.length_append,List.length_singleton]; unfold maxLen; omega) (by simp only [List.length_append,List.length_singleton]; omega)) ?_
 rintro _ w ⟨p21,c22,rfl,h⟩
 refine gz h fun w h=>?_
 refine xzZ<|go h fun w h=>?_
 have h:=h.fr (.c r1 (.c r4 .n))
 have h:=SH.addN (n:=s.node ((k+1 : Nat) : Int)) (q:=q19) (SH.se (l:=[_,_]) h)
 exact ⟨(k+1,ys ++ [(s.node ((k+1 : Nat) : Int),q19)],p21,c22),⟨rfl,rfl,rfl,rfl,rfl,trivial⟩,⟨(h.to.fr (.c r2 (.c r2 (.c r0 (.c r0 (.c r0 (.c r0 .n))))))),by (try dsimp only); rw [List.map_append,hys,List.map_singleton,node_k s (by omega)]; exact take_snoc (by rw [hnl]; omega),by (try dsimp only); omega⟩,by (try dsimp only); omega⟩
 have hg23:=of_decide_eq_false hd17
 refine go h fun w h=>?_
 refine rr (resC rfl rfl (h.b a5) Row.h) ?_
 have hy : ys.map Prod.fst=nodesOf s:=by rw [hys]; exact List.take_of_length_le (by rw [hnl]; omega)
 exact ⟨py,cy,pk14,ck15,ys,hy,rfl,(h.to.fr (.c r0 (.c r2 (.c r0 (.c r0 .n)))))⟩
theorem reqOwn_any (l : List Int) (pa pb : Option Addr) (ca cb : Nat) (h : SH B w (osl 36 1 (.slice pa l.length ca) l.length (l.map (Value.int .i64))::osl 36 1 (.slice pb l.length cb) l.length (l.map (Value.int .i64))::L)) (hl : l.length≤1000000000000) :
  Calls Tryz.prog 85 #[.slice pa l.length ca,.slice pb l.length cb] w fun e w'=>e=.returned (.bool true)∧SH B w' (osl 36 1 (.slice pa l.length ca) l.length (l.map (Value.int .i64))::osl 36 1 (.slice pb l.length cb) l.length (l.map (Value.int .i64))::L):=by
 refine bn0 Tryz.func85 Tryz.ntmps85 h fun w h=>?_
 refine lp (α:=Nat) (fun ρ=>(.c 0 (.slice pa l.length ca) (.c 1 (.slice pb l.length cb) (.c 5 (.int .i64 ((ρ : Nat) : Int)) .n)))) (fun ρ w=>SH B w (osl 36 1 (.slice pa l.length ca) l.length (l.map (Value.int .i64))::osl 36 1 (.slice pb l.length cb) l.length (l.map (Value.int .i64))::L)∧(ρ≤l.length)) (fun ρ=>l.length - ρ) 0 ⟨rfl,rfl,rfl,trivial⟩ ⟨h,Nat.zero_le _⟩ ?_
 rintro k w ⟨h,hk⟩
 refine go h fun w h=>?_
 refine qc h (fun hd1 w h=>?_) fun hd1 w h=>?_
 have hg2:=of_decide_eq_true hd1
 refine go h fun w h=>?_
 obtain ⟨b3,rfl⟩:=h.fp a0 (by omega)
 obtain ⟨b4,rfl⟩:=h.fp a1 (by omega)
 refine drH [1,3,5,7,9,11,13,15,17] (by kernel_rfl) h (.c r0 (.c r0 .n)) fun w h=>?_
 refine tk (fun W H=>mv rfl)<|tk (fun W H=>mv rfl)<|tk (fun W H=>ix (j:=k) sl_60 sz_36 rfl rfl (by omega))<|tk (fun W H=>ld one_36 rfl ((H.ro a0).i (by omega)))<|tk (fun W H=>mv rfl)<|tk (fun W H=>mv rfl)<|tk (fun W H=>ix (j:=k) sl_60 sz_36 rfl rfl (by omega))<|tk (fun W H=>ld one_36 rfl ((H.ro a1).i (by omega)))<|tk (fun W H=>bi rfl rfl rfl)<|xz<|nx<|cf rfl (bneS _)<|sk<|bn<|nx<|rg<|st (mv rfl)<|st (bw rfl rfl (wadd (c:=((k+1 : Nat) : Int)) (by omega) (by omega) (by omega)))<|st (sg rfl)<|xe<|nx<|?_
 refine go h fun w h=>?_
 exact ⟨(k+1),⟨rfl,rfl,rfl,trivial⟩,⟨h,by (try dsimp only); omega⟩,by (try dsimp only); omega⟩
 have hg5:=of_decide_eq_false hd1
 refine go h fun w h=>?_
 exact rz ⟨rfl,h⟩
theorem requal_two (n m : Ct.Node) (q1 q2 : Lq) (hnm : n=m) (h : SH B w (nodeR n q1::nodeR m q2::L)) (hb : n.branches.length≤1000000000000) (hp : n.pairs.length≤1000000000000) :
  Calls Tryz.prog 86 #[.agg (nodeC n q1).toArray,.agg (nodeC m q2).toArray] w fun e w'=>e=.returned (.bool true)∧SH B w' L:=by
 subst hnm
 refine (requal_any n q1 q2 h hb hp).mono ?_
 rintro e w' ⟨rfl,h⟩
 exact ⟨rfl,h.drop.drop⟩
theorem same_any (s : Ct.St) (zs1 zs2 : List (Ct.Node × Lq)) (pn1 pc1 pn2 pc2 : Option Addr) (cn1 cc1 cn2 cc2 : Nat) (h : SH B w (osl 77 14 (.slice pn1 zs1.length cn1) zs1.length (zs1.flatMap nodeP)::osl 36 1 (.slice pc1 s.cells.length cc1) s.cells.length (s.cells.map (Value.int .i64))::nodesF zs1::osl 77 14 (.slice pn2 zs2.length cn2) zs2.length (zs2.flatMap nodeP)::osl 36 1 (.slice pc2 s.cells.length cc2) s.cells.length (s.cells.map (Value.int .i64))::nodesF zs2::L)) (hz1 : zs1.map Prod.fst=nodesOf s) (hz2 : zs2.map Prod.fst=nodesOf s) (hr : s.size≤100000000000) (hf : ∀ n ∈ nodesOf s,n.branches.length≤1000000∧n.pairs.length≤200000000000∧n.bitmap<18446744073709551616) :
  Calls Tryz.prog 40 #[.agg [.slice pn1 zs1.length cn1,.slice pc1 s.cells.length cc1,.int .i64 ((s.gen : Nat) : Int)].toArray,.agg [.slice pn2 zs2.length cn2,.slice pc2 s.cells.length cc2,.int .i64 ((s.gen : Nat) : Int)].toArray] w fun e w'=>e=.returned (.bool true)∧SH B w' (osl 77 14 (.slice pn2 zs2.length cn2) zs2.length (zs2.flatMap nodeP)::osl 36 1 (.slice pc2 s.cells.length cc2) s.cells.length (s.cells.map (Value.int .i64))::nodesF zs2::L):=by
 have hl1:=zs_len hz1
 have hl2:=zs_len hz2
 have hrm : s.added.length+s.cells.length+s.gen+s.acc≤100000000000:=hr
 refine bn0 Tryz.func40 Tryz.ntmps40 h fun w h=>?_
 refine jX h fun b1 w h=>?_
 refine jX h fun b2 w h=>?_
 refine gT rfl rfl (bneF (by omega))<|go h fun w h=>?_
 refine gT rfl rfl (bneF (by omega))<|go h fun w h=>?_
 refine gT rfl rfl (bneF (by omega))<|go h fun w h=>?_
 refine gT rfl rfl (bneF (by omega))<|go h fun w h=>?_
 refine gT rfl rfl (bneF (by omega))<|go h fun w h=>?_
 refine st (pF rfl (bneF (by omega)) rfl)<|go h fun w h=>?_
 refine j000 (reqOwn_any _ _ _ _ _ h.to (by omega)) fun w h=>?_
 refine lp (α:=Nat) (fun ρ=>(.c 2 (.pointer (some ⟨b1,0,none⟩)) (.c 3 (.pointer (some ⟨b2,0,none⟩)) (.c 5 (.int .i64 ((ρ : Nat) : Int)) .n)))) (fun ρ w=>SH B w (osl 36 1 (.slice pc1 s.cells.length cc1) s.cells.length (s.cells.map (Value.int .i64))::osl 36 1 (.slice pc2 s.cells.length cc2) s.cells.length (s.cells.map (Value.int .i64))::bl b2 ([.slice pn2 zs2.length cn2,.slice pc2 s.cells.length cc2,.int .i64 ((s.gen : Nat) : Int)]) 62::bl b1 ([.slice pn1 zs1.length cn1,.slice pc1 s.cells.length cc1,.int .i64 ((s.gen : Nat) : Int)]) 62::osl 77 14 (.slice pn1 zs1.length cn1) zs1.length (zs1.flatMap nodeP)::nodesF zs1::osl 77 14 (.slice pn2 zs2.length cn2) zs2.length (zs2.flatMap nodeP)::nodesF zs2::L)∧(ρ≤zs1.length)) (fun ρ=>zs1.length - ρ) 0 ⟨rfl,rfl,rfl,trivial⟩ ⟨h,Nat.zero_le _⟩ ?_
 rintro k w ⟨h,hk⟩
 refine go h fun w h=>?_
 refine qc h (fun hd3 w h=>?_) fun hd3 w h=>?_
 have hg4:=of_decide_eq_true hd3
 refine go h fun w h=>?_
 obtain ⟨hm1,hk1,he1⟩:=nodes_at hz1 (k:=k) (by omega)
 obtain ⟨hm2,hk2,he2⟩:=nodes_at hz2 (k:=k) (by omega)
 have hfk:=hf _ hm1.2
 have h:=h.getN a7 hm2.1
 have h:=h.getN a6 hm1.1
 obtain ⟨b5,rfl⟩:=h.fp a6 (by omega)
 obtain ⟨b6,rfl⟩:=h.fp a8 (by omega)
 refine drH [1,3,5,7,9,11,13,15,17,19,20,23] (by kernel_rfl) h (.c r5 (.c r5 (.c r4 (.c r5 .n)))) fun w h=>go h fun w h=>?_
 refine tk (fun W H=>ldr rfl ((H.ro a1).x nodeP_len (by decide) (by omega) ({},{})) Row.h)<|go h fun w h=>?_
 refine tk (fun W H=>ldr rfl ((H.ro a3).x nodeP_len (by decide) (by omega) ({},{})) Row.h)<|go h fun w h=>?_
 refine s000 (requal_two _ _ _ _ (he1.trans he2.symm) h.to (by omega) (by omega)) fun w h=>?_
 exact ⟨(k+1),⟨rfl,rfl,rfl,trivial⟩,⟨h,by (try dsimp only); omega⟩,by (try dsimp only); omega⟩
 have hg7:=of_decide_eq_false hd3
 refine go h fun w h=>?_
 exact rz ⟨rfl,(h.to.fr (.c r1 (.c r0 (.c r0 .n))))⟩
theorem lstart_any (mb : Nat) (s : Ct.St) (h : SH B w (memA mb s::L)) (hr : s.size≤100000000000) (hp : Ct.Proper s) (hf : ∀ n ∈ nodesOf s,n.branches.length≤1000000∧n.pairs.length≤200000000000∧n.bitmap<18446744073709551616) :
  Calls Tryz.prog 12 #[.pointer (some ⟨mb,0,none⟩)] w fun e w'=>∃ ab,e=.returned (.pointer (some ⟨ab,0,none⟩))∧SH B w' (arA ab { s with acc:=0 }::memA mb { s with acc:=0 }::L):=by
 obtain ⟨⟨pn,cn,pc,cc,zs⟩,hz0,h⟩:=h.mo
 have h : SH B w (bl mb ([.slice pn zs.length cn,.slice pc s.cells.length cc,.int .i64 ((s.gen : Nat) : Int),.int .i64 ((s.acc : Nat) : Int)]) 64::osl 77 14 (.slice pn zs.length cn) zs.length (zs.flatMap nodeP)::osl 36 1 (.slice pc s.cells.length cc) s.cells.length (s.cells.map (Value.int .i64))::nodesF zs::L):=h
 have hzs : zs.map Prod.fst=nodesOf s:=hz0
 clear hz0
 have hz : zs.length=2+s.added.length:=zs_len hzs
 have hrm : s.added.length+s.cells.length+s.gen+s.acc≤100000000000:=hr
 refine bn0 Tryz.func12 Tryz.ntmps12 h fun w h=>?_
 refine st (ldr (cs:=[.slice pn zs.length cn,.slice pc s.cells.length cc,.int .i64 ((s.gen : Nat) : Int)]) rfl (rows_of (h.b a0) 0 rfl) Row.h)<|go h fun w h=>?_
 refine j100 (of_any _ _ _ _ _ _ h.to hzs hp hf hr) fun ab1 w h=>?_
 exact rz ⟨ab1,rfl,(SH.mi (s:={ s with acc:=0 }) ⟨pn,cn,pc,cc,zs⟩ hzs h.to).fr (.c r1 .n)⟩
end Go.Proofs.YtmliojdkmfhmmaaGreat
end
section
namespace Go.Ct
def rootD (s : St) (t : Trie) : Int :=
 bif (s.node (s.load t.root).2).kind==8 then (bif (s.load (s.node (s.load t.root).2).status).2==1 then (s.node (s.load t.root).2).new else (s.node (s.load t.root).2).old) else (s.load t.root).2
def rootOf (s : St) (t : Trie) : Int × Bool:=bif (s.node (rootD s t)).kind != 2 then (0,false) else (rootD s t,true)
def bodyM (s : St) (i : Int) : Int:=(s.load (s.node i).main).2
def bodyP (s : St) (i : Int) : Int:=(s.load (s.node (bodyM s i)).prev).2
def bodyQ (s : St) (i : Int) : Int:=bif (s.node (bodyP s i)).kind==7 then (s.node (bodyP s i)).old else bodyP s i
def bodyOf (s : St) (i : Int) : Int × Bool :=
 bif (s.node i).kind != 2 then (0,false) else bif !(s.node (bodyM s i)).isMain then (0,false) else bif bodyP s i==0 then (bodyM s i,true)
 else bif !(s.node (bodyQ s i)).isMain then (0,false) else (bodyQ s i,true)
structure Flat (s : St) (t : Trie) (r m : Int) : Prop where
 root : rootOf s t=(r,true)
 lo : 1≤r
 hi : r≤((2+s.added.length : Nat) : Int)
 body : bodyOf s r=(m,true)
 kind : (s.node m).kind=3
 br : ∀ k,k<(s.node m).branches.length→(s.node ((s.node m).branches.getD k 0)).kind=4
end Go.Ct
end
section
namespace Go.Proofs.YtmliojdkmfhmmaaGreat
open Go.E
end Go.Proofs.YtmliojdkmfhmmaaGreat
end
section
namespace Go.Proofs.YtmliojdkmfhmmaaGreat
attribute [local irreducible] Go.E.wpL Go.E.wpS Go.E.X Go.E.XS Go.E.C Go.E.thn Go.E.blk Go.E.fin Go.E.Y Go.E.U Go.E.F Go.E.Ca Go.E.Res Go.E.bl Go.E.rb Go.E.osl Go.E.rsl Go.E.ex Go.E.ce Go.E.pu Go.E.sK Go.E.gK Go.E.bK Go.E.zK Go.E.boxA Go.E.cloA Go.E.codeA clA cdA
open Go.RowKit Go.E
section
attribute [local semireducible] Go.E.wpL Go.E.wpS Go.E.X Go.E.XS Go.E.C Go.E.thn Go.E.blk Go.E.fin Go.E.Y Go.E.U Go.E.F Go.E.Ca Go.E.Res Go.E.bl Go.E.rb Go.E.osl Go.E.rsl Go.E.ex Go.E.ce Go.E.pu Go.E.sK Go.E.gK Go.E.bK Go.E.zK Go.E.boxA Go.E.cloA Go.E.codeA clA cdA
attribute [local irreducible] Go.E.wpL Go.E.wpS
end
end Go.Proofs.YtmliojdkmfhmmaaGreat
end
section
namespace Go.E
open Go.RowKit
variable {B w : World} {L : List As} {P : Program} {n : Nat} {K : Post} {e : Tm} {ops : Array Oper} {l : List Oper}
variable {d : Option Tmp} {ty : TypeId} {ps : String} {af : Array Edge}
theorem fv_cells (v : Fv) : v.val.cells=[v.val].toArray:=by cases v <;> rfl
theorem cvF {x : Operand} {v : Fv} {az : Array Operand} {ats : Array TypeId} {vs : List Value} (hx : ev n e x=some v.val) (ha : evs n e az.toList=some vs)
  (k : CallsV P v vs w fun y w'=>∃ u,y=.returned u∧X P n ops l K (Tm.put e d u) w') : X P n ops (⟨d,.call ⟨.value x,az,ats⟩,ty,ps,af,none⟩::l) K e w:=by
 obtain ⟨f,ff,fc,rfl,en,hc⟩:=k
 exact cl (cv_ en hx ha) hc
end Go.E
namespace Go.Proofs.YtmliojdkmfhmmaaGreat
open Go.RowKit Go.E
variable {B w w' : World} {L : List As} {α β : Type} {S : Sto} {F : β→Cc→As} {n m j : Nat} {args : α→List Value} {k : α→Ct.I β} {v : Fv} {s : Ct.St}
theorem ncM {n : Nat} {e : Tm} {d : Option Tmp} {ty : TypeId} {ps : String} {af : Array Edge} {g : Option (Nat × Bool)} {x : Operand} {name : String} {t : TypeId} {u : Value} {c : Array Value} (hx : ev n e x=some (.func (.method name) #[.iface t u] c)) (hn : (nilAhead 411 t u name).run Tryz.prog w=.ok (some false) w) :
  Y Tryz.prog n e ⟨d,.nilCheck x,ty,ps,af,g⟩ w (.func (.method name) #[.iface t u] c) w:=fun a ha=>by
 have hf : Tryz.prog.types.size+Made.depth = 411:=by kernel_rfl
 simp only [execOp,ha.eval hx]
 simp only [List.size_toArray,List.length_cons,List.length_nil,Nat.zero_add,Nat.lt_add_one,getElem?_pos,List.getElem_toArray,List.getElem_cons_zero,Sem.run_bind,run_program,Result.andThen_ok]
 rw [hf,hn]
 rfl
def unitA (_ : Unit) : List Value:=[]
def int2A (p : Int × Int) : List Value:=[.int .i64 p.1,.int .i64 p.2]
theorem clLess {i : Nat} (hm : m≤n) (hj : i≤j) (h : SH B w (clA S F n i args k v::L)) : SH B w (clA S F m j args k v::L):=h.imp fun O R=>cloA_mono (codeA_less hm) fun _ h=>h.less hj
theorem callk (h : SH B w (clA S F n j args k v::S.a s::L)) (hs : Ct.Rm j s) (a : α) : CallsV Tryz.prog v (args a) w (CP S F n B (k a) s L):=SH.useC h hs a
theorem mkl (l : List As) (h : SH B w (l ++ L)) (hc : ∀ (B w : World) (L : List As) (s : Ct.St) (a : α),SH B w (l ++ S.a s::L)→Ct.Rm j s→CallsV Tryz.prog v (args a) w (CP S F n B (k a) s L)) : SH B w (clA S F n j args k v::L):=SH.mkC l h hc
theorem mkt (l : List As) (h : SH B w (l ++ L)) (hc : ∀ m,m<n→∀ (B w : World) (L : List As) (s : Ct.St) (a : α),SH B w (l ++ S.a s::L)→Ct.Rm 100 s→CallsV Tryz.prog v (args a) w (CP S F m B (k a) s L)) : SH B w (ltA Tryz.prog S.a (Ct.Rm 100) F args k v n::L):=SH.lt_ l h hc
def klA {α β : Type} (S : Sto) (F : β→Cc→As) : Nat→Nat→(α→List Value)→(α→Ct.I β)→Fv→As
 | 0,_,_,_,_=>anyA
 | n+1,j,args,k,v=>clA S F n j args k v
theorem mkk (l : List As) (h : SH B w (l ++ L)) (hc : ∀ m,m<n→∀ (B w : World) (L : List As) (s : Ct.St) (a : α),SH B w (l ++ S.a s::L)→Ct.Rm j s→CallsV Tryz.prog v (args a) w (CP S F m B (k a) s L)) : SH B w (klA S F n j args k v::L):=by
 cases n with
 | zero=>exact (SH.is h).imp fun _ _ h=>anyA_of h
 | succ m=>exact mkl l h (hc m (Nat.lt_succ_self m))
theorem klGet (hm : m<n) (h : SH B w (klA S F n j args k v::L)) : SH B w (clA S F m j args k v::L):=by
 cases n with
 | zero=>omega
 | succ n=>exact clLess (Nat.le_of_lt_succ hm) (Nat.le_refl _) h
theorem clKl {i : Nat} (hj : i≤j) (h : SH B w (clA S F n i args k v::L)) : SH B w (klA S F n j args k v::L):=by
 cases n with
 | zero=>exact h.imp fun _ _ h=>anyA_of h
 | succ m=>exact clLess (Nat.le_succ m) hj h
theorem klLt (hj : j≤100) (h : SH B w (klA S F n j args k v::L)) : SH B w (ltA Tryz.prog S.a (Ct.Rm 100) F args k v n::L):=by
 cases n with
 | zero=>exact h
 | succ m=>exact clLess (Nat.le_refl m) hj h
theorem kL {a : Int} {k : Int→Ct.I β} (h : SH B w (ltA Tryz.prog S.a (Ct.Rm 100) F intA k v n::L)) : SH B w (cdA S F n (.load a k) (loadC a v)::L):=SH.ld_ h
theorem kC {a o x : Int} {k : Bool→Ct.I β} (h : SH B w (ltA Tryz.prog S.a (Ct.Rm 100) F boolA k v n::L)) : SH B w (cdA S F n (.cas a o x k) (casC a o x v)::L):=SH.cs_ h
theorem cpI {t t' : Ct.I β} {s' : Ct.St} {c : Cc} (hq : t.head s=(s',t')) (h : SH B w' (cdA S F n t' c::S.a s'::L)) : CP S F n B t s L (.returned (.agg (ccL c).toArray)) w' :=⟨s',t',c,hq,rfl,h⟩
def resF (r : Ct.Result) (c : Cc) : As:=pu (c=doneC r)
theorem kD {r : Ct.Result} (h : SH B w L) : SH B w (cdA S resF n (.ret r) (doneC r)::L):=SH.ret_ (SH.ip rfl h)
theorem snode_any (S : Sto) (s : Ct.St) (r : Int) (h : SH B w (S.a s::L)) (hs : Ct.Rm j s) :
  Calls Tryz.prog 64 #[.pointer (some ⟨S.ab,0,none⟩),.int .i64 r] w fun e w'=>∃ q,e=.returned (.agg (nodeC (s.node r) q).toArray)∧SH B w' (nodeR (s.node r) q::S.a s::L):=by
 refine (anode_any S.ab s r h.so hs.big hs.fit).mono ?_
 rintro e w' ⟨q,rfl,h⟩
 exact ⟨q,rfl,(SH.si (h.fr (.c r1 (.c r1 .n)))).fr (.c r1 .n)⟩
theorem salloc_any (S : Sto) (s : Ct.St) (n : Ct.Node) (q : Lq) (i : Int) (h : SH B w (nodeR n q::S.a s::L)) (hs : Ct.Rm j s) (hf : n.Fit (s.added.length+1)) :
  Calls Tryz.prog 355 #[.pointer (some ⟨S.ab,0,none⟩),.agg (nodeC n q).toArray,.int .i64 i] w fun e w'=>e=.returned (.int .i64 (s.alloc n i).2)∧SH B w' (S.a (s.alloc n i).1::L):=by
 have hb:=fit_lens hf (by have:=hs.big; unfold Ct.St.size at this; omega)
 refine (aalloc_any S.ab s n q i ((SH.so (h.fr (.c r1 .n))).fr (.c r2 (.c r0 .n))) hs.big hb.1 hb.2).mono ?_
 rintro e w' ⟨rfl,h⟩
 exact ⟨rfl,SH.si h⟩
theorem snewCell_any (S : Sto) (s : Ct.St) (i : Int) (h : SH B w (S.a s::L)) (hs : Ct.Rm j s) :
  Calls Tryz.prog 358 #[.pointer (some ⟨S.ab,0,none⟩),.int .i64 i] w fun e w'=>e=.returned (.int .i64 (s.newCell i).2)∧SH B w' (S.a (s.newCell i).1::L):=by
 refine (anewCell_any S.ab s i h.so hs.big).mono ?_
 rintro e w' ⟨rfl,h⟩
 exact ⟨rfl,SH.si h⟩
theorem snewGen_any (S : Sto) (s : Ct.St) (h : SH B w (S.a s::L)) (hs : Ct.Rm j s) :
  Calls Tryz.prog 359 #[.pointer (some ⟨S.ab,0,none⟩)] w fun e w'=>e=.returned (.int .i64 s.newGen.2)∧SH B w' (S.a s.newGen.1::L):=by
 refine (anewGen_any S.ab s h.so hs.big).mono ?_
 rintro e w' ⟨rfl,h⟩
 exact ⟨rfl,SH.si h⟩
theorem sload_any (S : Sto) (s : Ct.St) (c : Int) (h : SH B w (S.a s::L)) (hs : Ct.Rm j s) :
  Calls Tryz.prog 357 #[.pointer (some ⟨S.ab,0,none⟩),.int .i64 c] w fun e w'=>e=.returned (.int .i64 (s.load c).2)∧SH B w' (S.a (s.load c).1::L):=by
 refine (aload_any S.ab s c h.so hs.big).mono ?_
 rintro e w' ⟨rfl,h⟩
 exact ⟨rfl,SH.si h⟩
theorem scas_any (S : Sto) (s : Ct.St) (c o n : Int) (h : SH B w (S.a s::L)) (hs : Ct.Rm j s) :
  Calls Tryz.prog 356 #[.pointer (some ⟨S.ab,0,none⟩),.int .i64 c,.int .i64 o,.int .i64 n] w fun e w'=>e=.returned (.bool (s.cas c o n).2)∧SH B w' (S.a (s.cas c o n).1::L):=by
 refine (acas_any S.ab s c o n h.so hs.big).mono ?_
 rintro e w' ⟨rfl,h⟩
 exact ⟨rfl,SH.si h⟩
theorem rm_load {s : Ct.St} (h : Ct.Rm (j+1) s) (c : Int) : Ct.Rm j (s.load c).1 :=⟨h.fit,by have:=h.room; have:=(Ct.St.load_size s c).1; omega⟩
theorem rm_cas {s : Ct.St} (h : Ct.Rm (j+1) s) (c o n : Int) : Ct.Rm j (s.cas c o n).1 :=⟨(by unfold Ct.AllFit; rw [(Ct.St.cas_size s c o n).2]; exact h.fit),by have:=h.room; have:=(Ct.St.cas_size s c o n).1; omega⟩
end Go.Proofs.YtmliojdkmfhmmaaGreat
end
