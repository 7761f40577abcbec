/- Parts of a proof: Ryd, Rye, Ryf, Ryg, Qya, Qyb, Qyc, Qyd, Qye, Qyf, Qyg, Qyh, Qyi, Qyj, Qyk, Qyl, Qym, Qyn, Aya, Ar. -/
import Derived.Test.YtmliojdkmfhmmaaGreatW13
import Derived.Test.YtmliojdkmfhmmaaGreatW14
import Derived.Test.YtmliojdkmfhmmaaGreatW12
import Derived.Test.YtmliojdkmfhmmaaGreatW09
import Derived.Test.YtmliojdkmfhmmaaGreatW15
import Derived.Test.YtmliojdkmfhmmaaGreatW04
set_option linter.unusedVariables false
set_option linter.unusedSimpArgs false
set_option maxRecDepth 100000
set_option maxHeartbeats 4000000
section
namespace Go.Proofs.YtmliojdkmfhmmaaGreat
open Go.E
end Go.Proofs.YtmliojdkmfhmmaaGreat
end
section
namespace Go.Proofs.YtmliojdkmfhmmaaGreat
open Go.E
theorem fo_35_1 : fo Tryz.prog 35 1=some 1:=by kernel_rfl
theorem fv_77_1 : fv Tryz.prog 77 1=some (1,1,false):=by kernel_rfl
theorem row_35 : rowN Tryz.prog 35 = some 2:=by kernel_rfl
theorem en_167 : Ents Tryz.prog 167:=enG Tryz.func167 rfl rfl
theorem en_166 : Ents Tryz.prog 166:=enG Tryz.func166 rfl rfl
end Go.Proofs.YtmliojdkmfhmmaaGreat
end
section
namespace Go.Proofs.YtmliojdkmfhmmaaGreat
open Go.E
theorem eq_132 : eqf Tryz.prog 132 = some [.s,.i .u64]:=by kernel_rfl
theorem fo_132_0 : fo Tryz.prog 132 0=some 0:=by kernel_rfl
theorem one_28 : oneC Tryz.prog 28 = true:=by kernel_rfl
theorem one_9 : oneC Tryz.prog 9 = true:=by kernel_rfl
theorem row_132 : rowN Tryz.prog 132 = some 2:=by kernel_rfl
theorem sz_132 : (Tryz.prog.info? 132).map (·.size)=some 2:=by kernel_rfl
theorem un_9 : Tryz.prog.underlying 9 = some (.string):=by kernel_rfl
theorem en_287 : Ents Tryz.prog 287:=enG Tryz.func287 rfl rfl
theorem en_192 : Ents Tryz.prog 192:=enG Tryz.func192 rfl rfl
theorem en_193 : Ents Tryz.prog 193:=enG Tryz.func193 rfl rfl
end Go.Proofs.YtmliojdkmfhmmaaGreat
end
section
namespace Go.Proofs.YtmliojdkmfhmmaaGreat
open Go.E
theorem fo_77_1 : fo Tryz.prog 77 1=some 1:=by kernel_rfl
theorem fo_77_10 : fo Tryz.prog 77 10=some 10:=by kernel_rfl
theorem fo_77_11 : fo Tryz.prog 77 11=some 11:=by kernel_rfl
theorem fo_77_12 : fo Tryz.prog 77 12=some 12:=by kernel_rfl
theorem fo_77_3 : fo Tryz.prog 77 3=some 3:=by kernel_rfl
theorem fo_77_5 : fo Tryz.prog 77 5=some 5:=by kernel_rfl
theorem fo_77_6 : fo Tryz.prog 77 6=some 6:=by kernel_rfl
theorem sz_28 : (Tryz.prog.info? 28).map (·.size)=some 1:=by kernel_rfl
theorem en_191 : Ents Tryz.prog 191:=enG Tryz.func191 rfl rfl
theorem en_232 : Ents Tryz.prog 232:=enG Tryz.func232 rfl rfl
theorem en_240 : Ents Tryz.prog 240:=enG Tryz.func240 rfl rfl
theorem en_285 : Ents Tryz.prog 285:=enG Tryz.func285 rfl rfl
theorem en_86 : Ents Tryz.prog 86:=enG Tryz.func86 rfl rfl
theorem en_190 : Ents Tryz.prog 190:=enG Tryz.func190 rfl rfl
theorem en_221 : Ents Tryz.prog 221:=enG Tryz.func221 rfl rfl
theorem en_217 : Ents Tryz.prog 217:=enG Tryz.func217 rfl rfl
theorem en_286 : Ents Tryz.prog 286:=enG Tryz.func286 rfl rfl
end Go.Proofs.YtmliojdkmfhmmaaGreat
end
section
namespace Go.Proofs.YtmliojdkmfhmmaaGreat
open Go.E
theorem en_171 : Ents Tryz.prog 171:=enG Tryz.func171 rfl rfl
theorem en_181 : Ents Tryz.prog 181:=enG Tryz.func181 rfl rfl
end Go.Proofs.YtmliojdkmfhmmaaGreat
end
section
namespace Go.Proofs.YtmliojdkmfhmmaaGreat
open Go.E
theorem fo_115_1 : fo Tryz.prog 115 1=some 1:=by kernel_rfl
theorem fo_45_1 : fo Tryz.prog 45 1=some 1:=by kernel_rfl
theorem fo_45_11 : fo Tryz.prog 45 11=some 12:=by kernel_rfl
theorem fo_45_8 : fo Tryz.prog 45 8=some 9:=by kernel_rfl
theorem row_43 : rowN Tryz.prog 43 = some 8:=by kernel_rfl
theorem sz_35 : (Tryz.prog.info? 35).map (·.size)=some 2:=by kernel_rfl
theorem sz_43 : (Tryz.prog.info? 43).map (·.size)=some 8:=by kernel_rfl
theorem zc_35 : zc Tryz.prog 35 = some [.int .i64 0,.bool false]:=by kernel_rfl
theorem zc_43 : zc Tryz.prog 43 = some [.int .i64 0,.bool false,.int .u64 0,.string .empty,.int .i64 0,.int .i64 0,.int .i64 0,.bool false]:=by kernel_rfl
theorem en_263 : Ents Tryz.prog 263:=enG Tryz.func263 rfl rfl
theorem en_117 : Ents Tryz.prog 117:=enG Tryz.func117 rfl rfl
end Go.Proofs.YtmliojdkmfhmmaaGreat
end
section
namespace Go.Proofs.YtmliojdkmfhmmaaGreat
open Go.E
theorem fo_45_9 : fo Tryz.prog 45 9=some 10:=by kernel_rfl
theorem en_311 : Ents Tryz.prog 311:=enG Tryz.func311 rfl rfl
theorem en_288 : Ents Tryz.prog 288:=enG Tryz.func288 rfl rfl
end Go.Proofs.YtmliojdkmfhmmaaGreat
end
section
namespace Go.Proofs.YtmliojdkmfhmmaaGreat
open Go.E
end Go.Proofs.YtmliojdkmfhmmaaGreat
end
section
namespace Go.Proofs.YtmliojdkmfhmmaaGreat
open Go.E
end Go.Proofs.YtmliojdkmfhmmaaGreat
end
section
namespace Go.Proofs.YtmliojdkmfhmmaaGreat
open Go.E
theorem bd_35 : bdn Tryz.prog 35 = some ([.int .i64 0,.bool false],[(0,1),(1,1)]):=by kernel_rfl
end Go.Proofs.YtmliojdkmfhmmaaGreat
end
section
namespace Go.Proofs.YtmliojdkmfhmmaaGreat
open Go.E
theorem fo_115_13 : fo Tryz.prog 115 13=some 40:=by kernel_rfl
theorem fo_115_14 : fo Tryz.prog 115 14=some 41:=by kernel_rfl
theorem fo_45_0 : fo Tryz.prog 45 0=some 0:=by kernel_rfl
theorem row_45 : rowN Tryz.prog 45 = some 25:=by kernel_rfl
theorem sz_45 : (Tryz.prog.info? 45).map (·.size)=some 25:=by kernel_rfl
theorem zc_45 : zc Tryz.prog 45 = some [.int .i64 0,.int .i64 0,.bool false,.int .i64 0,.int .i64 0,.int .i64 0,.int .i64 0,.int .u64 0,.int .u64 0,.string .empty,.int .u64 0,.int .u64 0,.int .i64 0,.bool false,.bool false,.slice none 0 0,.slice none 0 0,.int .i64 0,.bool false,.int .u64 0,.string .empty,.int .i64 0,.int .i64 0,.int .i64 0,.bool false]:=by kernel_rfl
theorem en_48 : Ents Tryz.prog 48:=enG Tryz.func48 rfl rfl
theorem en_113 : Ents Tryz.prog 113:=enG Tryz.func113 rfl rfl
theorem en_209 : Ents Tryz.prog 209:=enG Tryz.func209 rfl rfl
end Go.Proofs.YtmliojdkmfhmmaaGreat
end
section
namespace Go.Proofs.YtmliojdkmfhmmaaGreat
open Go.E
theorem un_28 : Tryz.prog.underlying 28 = some (.int .u64):=by kernel_rfl
theorem un_3 : Tryz.prog.underlying 3 = some (.int .i64):=by kernel_rfl
theorem en_45 : Ents Tryz.prog 45:=enG Tryz.func45 rfl rfl
theorem en_46 : Ents Tryz.prog 46:=enG Tryz.func46 rfl rfl
theorem en_14 : Ents Tryz.prog 14:=enG Tryz.func14 rfl rfl
end Go.Proofs.YtmliojdkmfhmmaaGreat
end
section
namespace Go.Proofs.YtmliojdkmfhmmaaGreat
open Go.E
theorem en_43 : Ents Tryz.prog 43:=enG Tryz.func43 rfl rfl
theorem en_39 : Ents Tryz.prog 39:=enG Tryz.func39 rfl rfl
end Go.Proofs.YtmliojdkmfhmmaaGreat
end
section
namespace Go.Proofs.YtmliojdkmfhmmaaGreat
open Go.E
theorem en_50 : Ents Tryz.prog 50:=enG Tryz.func50 rfl rfl
theorem en_44 : Ents Tryz.prog 44:=enG Tryz.func44 rfl rfl
end Go.Proofs.YtmliojdkmfhmmaaGreat
end
section
namespace Go.Proofs.YtmliojdkmfhmmaaGreat
open Go.E
theorem bd_45 : bdn Tryz.prog 45 = some ([.int .i64 0,.int .i64 0,.bool false,.int .i64 0,.int .i64 0,.int .i64 0,.int .i64 0,.int .u64 0,.int .u64 0,.string .empty,.int .u64 0,.int .u64 0,.int .i64 0,.bool false,.bool false,.slice none 0 0,.slice none 0 0,.int .i64 0,.bool false,.int .u64 0,.string .empty,.int .i64 0,.int .i64 0,.int .i64 0,.bool false],[(0,1),(1,2),(3,1),(4,1),(5,1),(6,1),(7,1),(8,1),(9,1),(10,1),(11,1),(12,1),(13,1),(14,3),(17,8)]):=by kernel_rfl
theorem fo_32_1 : fo Tryz.prog 32 1=some 1:=by kernel_rfl
theorem fo_32_2 : fo Tryz.prog 32 2=some 2:=by kernel_rfl
theorem one_29 : oneC Tryz.prog 29 = true:=by kernel_rfl
theorem sl_29 : Tryz.prog.underlying 29 = some (.slice 35):=by kernel_rfl
theorem en_13 : Ents Tryz.prog 13:=enG Tryz.func13 rfl rfl
end Go.Proofs.YtmliojdkmfhmmaaGreat
end
section
namespace Go.Proofs.YtmliojdkmfhmmaaGreat
open Go.E
theorem fo_32_3 : fo Tryz.prog 32 3=some 3:=by kernel_rfl
theorem one_30 : oneC Tryz.prog 30 = true:=by kernel_rfl
theorem sl_30 : Tryz.prog.underlying 30 = some (.slice 53):=by kernel_rfl
theorem ss_35 : sizes Tryz.prog 35 = some (.agg [.int .i64 0,.bool false].toArray,2,16):=by kernel_rfl
theorem ss_53 : sizes Tryz.prog 53 = some (.pointer none,1,8):=by kernel_rfl
theorem sz_29 : (Tryz.prog.info? 29).map (·.size)=some 1:=by kernel_rfl
theorem sz_30 : (Tryz.prog.info? 30).map (·.size)=some 1:=by kernel_rfl
end Go.Proofs.YtmliojdkmfhmmaaGreat
end
section
namespace Go.Proofs.YtmliojdkmfhmmaaGreat
open Go.E
theorem fo_32_0 : fo Tryz.prog 32 0=some 0:=by kernel_rfl
theorem en_47 : Ents Tryz.prog 47:=enG Tryz.func47 rfl rfl
end Go.Proofs.YtmliojdkmfhmmaaGreat
end
section
namespace Go.Proofs.YtmliojdkmfhmmaaGreat
open Go.E
theorem bd_32 : bdn Tryz.prog 32 = some ([.pointer none,.int .u64 0,.slice none 0 0,.slice none 0 0],[(0,1),(1,1),(2,1),(3,1)]):=by kernel_rfl
theorem one_53 : oneC Tryz.prog 53 = true:=by kernel_rfl
theorem sz_53 : (Tryz.prog.info? 53).map (·.size)=some 1:=by kernel_rfl
theorem en_11 : Ents Tryz.prog 11:=enG Tryz.func11 rfl rfl
end Go.Proofs.YtmliojdkmfhmmaaGreat
end
section
namespace Go.Proofs.YtmliojdkmfhmmaaGreat
open Go.E
theorem fo_128_0 : fo Tryz.prog 128 0=some 0:=by kernel_rfl
theorem en_62 : Ents Tryz.prog 62:=enG Tryz.func62 rfl rfl
theorem en_99 : Ents Tryz.prog 99:=enG Tryz.func99 rfl rfl
theorem en_183 : Ents Tryz.prog 183:=enG Tryz.func183 rfl rfl
end Go.Proofs.YtmliojdkmfhmmaaGreat
end
section
namespace Go.Proofs.YtmliojdkmfhmmaaGreat
attribute [local irreducible] Go.E.wpL Go.E.wpS Go.E.X Go.E.XS Go.E.C Go.E.thn Go.E.blk Go.E.fin Go.E.Y Go.E.U Go.E.F Go.E.Ca Go.E.Res Go.E.bl Go.E.rb Go.E.osl Go.E.rsl Go.E.ex Go.E.ce Go.E.pu Go.E.sK Go.E.gK Go.E.bK Go.E.zK Go.E.boxA Go.E.cloA Go.E.codeA clA cdA
open Go.RowKit Go.E
theorem node_mark (s : Ct.St) {r : Int} (h : 1≤r) (h2 : r≤2) : s.node r=Ct.markNode:=by
 unfold Ct.St.node Ct.St.nodes; rw [if_neg (by omega),if_pos h2]
theorem anode_at {zs : List (Ct.Node × Lq)} {s : Ct.St} (h : zs.map Prod.fst=s.added) {r : Int} {j : Nat} (hj : r - 2 - 1=(j : Int)) (hl : j<zs.length) : zs.getD j ({},{}) ∈ zs∧(zs.getD j ({},{})).1=s.node r:=by
 have e : zs.getD j ({},{})=zs[j]:=by rw [List.getD_eq_getElem?_getD,List.getElem?_eq_getElem hl]; rfl
 have hz : zs.length=s.added.length:=by rw [← h,List.length_map]
 rw [e]
 refine ⟨List.getElem_mem _,?_⟩
 have h1 : (zs.map Prod.fst)[j]? = some zs[j].1:=by rw [List.getElem?_map,List.getElem?_eq_getElem hl]; rfl
 rw [h] at h1
 unfold Ct.St.node Ct.St.nodes
 rw [if_neg (by omega),if_neg (by omega)]
 have e2 : r.toNat - 3=j:=by omega
 rw [e2,List.getD_eq_getElem?_getD,h1]; rfl
theorem fit_lens {L : Nat} {n : Ct.Node} (h : n.Fit L) (hL : L≤150000000000) : n.branches.length≤1000000∧n.pairs.length≤200000000000 :=⟨h.1.1,Nat.le_trans h.1.2.1 (by omega)⟩
theorem isMain_kind {n : Ct.Node} (h : n.isMain=true) : n.kind=3∨n.kind=5∨n.kind=6:=by unfold Ct.Node.isMain at h; simpa [or_assoc] using h
theorem kind_none {n : Ct.Node} (h2 : n.kind≠2) (hm : n.isMain=false) (h8 : n.kind≠8) : n.kind≠2∧n.kind≠3∧n.kind≠5∧n.kind≠6∧n.kind≠8:=by
 unfold Ct.Node.isMain at hm
 simp at hm
 exact ⟨h2,hm.1.1,hm.1.2,hm.2,h8⟩
variable {B w : World} {L : List As}
theorem copiedR_any (l : List Int) (p : Option Addr) (c : Nat) (h : SH B w (rsl 1 (.slice p l.length c) l.length (l.map (Value.int .i64))::L)) (hl : l.length≤1000000) :
  Calls Tryz.prog 154 #[.slice p l.length c] w fun e w'=>∃ p' c',e=.returned (.slice p' l.length c')∧SH B w' (rsl 1 (.slice p' l.length c') l.length (l.map (Value.int .i64))::L):=by
 refine bn0 Tryz.func154 Tryz.ntmps154 h fun w h=>?_
 refine qc h (fun hd1 w h=>?_) fun hd1 w h=>?_
 have hg2:=eq_of_beq hd1
 refine go h fun w h=>?_
 refine rz ?_
 have hl : l=[]:=List.length_eq_zero_iff.1 (by have:=eq_of_beq hd1; omega)
 exact ⟨none,0,by subst hl; rfl,by subst hl; exact SH.nilr 1 h.drop⟩
 have hg3:=ne_of_beq_false hd1
 refine go h fun w h=>?_
 refine sf (mk h Slc.h Ss.h rfl rfl (by omega) (by unfold maxLen; omega)) ?_
 rintro _ w ⟨b4,rfl,h⟩
 refine go h fun w h=>?_
 rw [madeInts] at h
 refine go h fun w h=>?_
 obtain ⟨b5,o6,rfl⟩:=h.fq a1 (by first | omega | (rcases l with _ | ⟨_,_⟩ <;> simp at * <;> omega))
 refine sf (cpy h a1 Slc.h Sz.h rfl rfl u0 (ones_ints _) rfl) ?_
 rintro _ w ⟨rfl,h⟩
 refine go h fun w h=>?_
 exact rz ⟨_,_,rfl,SH.fz h.to⟩
theorem copiedP_any (l : List Ct.Pair) (p : Option Addr) (c : Nat) (h : SH B w (rsl 2 (.slice p l.length c) l.length (l.flatMap pairC)::L)) (hl : l.length≤200000000000) :
  Calls Tryz.prog 155 #[.slice p l.length c] w fun e w'=>∃ p' c',e=.returned (.slice p' l.length c')∧SH B w' (rsl 2 (.slice p' l.length c') l.length (l.flatMap pairC)::L):=by
 refine bn0 Tryz.func155 Tryz.ntmps155 h fun w h=>?_
 refine qc h (fun hd1 w h=>?_) fun hd1 w h=>?_
 have hg2:=eq_of_beq hd1
 refine go h fun w h=>?_
 refine rz ?_
 have hl : l=[]:=List.length_eq_zero_iff.1 (by have:=eq_of_beq hd1; omega)
 exact ⟨none,0,by subst hl; rfl,by subst hl; exact SH.nilr 2 h.drop⟩
 have hg3:=ne_of_beq_false hd1
 refine go h fun w h=>?_
 refine sf (mk h Slc.h Ss.h rfl rfl (by omega) (by unfold maxLen; omega)) ?_
 rintro _ w ⟨b4,rfl,h⟩
 refine go h fun w h=>?_
 obtain ⟨b5,o6,rfl⟩:=h.fq a1 (by first | omega | (rcases l with _ | ⟨_,_⟩ <;> simp at * <;> omega))
 refine sf (cpy h a1 Slc.h Sz.h rfl rfl u0 (ones_rows pairC_one _) rfl) ?_
 rintro _ w ⟨rfl,h⟩
 refine go h fun w h=>?_
 exact rz ⟨_,_,rfl,SH.fz h.to⟩
theorem clone_any (n : Ct.Node) (q : Lq) (h : SH B w (nodeR n q::L)) (hb : n.branches.length≤1000000) (hp : n.pairs.length≤200000000000) :
  Calls Tryz.prog 99 #[.agg (nodeC n q).toArray] w fun e w'=>∃ q',e=.returned (.agg (nodeC n q').toArray)∧SH B w' (nodeR n q'::L):=by
 have h:=h.se
 refine bn0 Tryz.func99 Tryz.ntmps99 h fun w h=>?_
 refine jX h fun b1 w h=>?_
 refine jA h fun b2 w h=>?_
 refine j200 (copiedR_any _ _ _ h.to (by omega)) fun p3 c4 w h=>?_
 refine j200 (copiedP_any _ _ _ h.to (by omega)) fun p5 c6 w h=>?_
 exact rr (resC rfl rfl (h.b a2) Row.h)<|⟨⟨p3,c4,p5,c6⟩,rfl,SH.is (l:=[_,_]) (h.to.fr (.c r1 (.c r0 .n)))⟩
theorem nodeMain_any (n : Ct.Node) (q : Lq) (h : SH B w (L)) :
  Calls Tryz.prog 183 #[.agg (nodeC n q).toArray] w fun e w'=>e=.returned (.bool n.isMain)∧SH B w' L:=by
 refine bn0 Tryz.func183 Tryz.ntmps183 h fun w h=>?_
 refine jX h fun b1 w h=>?_
 refine qc h (fun hd2 w h=>?_) fun hd2 w h=>?_
 have hg3:=eq_of_beq hd2
 refine go h fun w h=>?_
 refine rz ?_
 have hm : n.isMain=true:=by unfold Ct.Node.isMain; rw [hd2]; simp
 exact ⟨by rw [hm],h.drop⟩
 have hg4:=ne_of_beq_false hd2
 refine go h fun w h=>?_
 refine qc h (fun hd5 w h=>?_) fun hd5 w h=>?_
 have hg6:=eq_of_beq hd5
 refine go h fun w h=>?_
 refine rz ?_
 have hm : n.isMain=true:=by unfold Ct.Node.isMain; rw [hd2,hd5]; simp
 exact ⟨by rw [hm],h.drop⟩
 have hg7:=ne_of_beq_false hd5
 refine go h fun w h=>?_
 refine qc h (fun hd8 w h=>?_) fun hd8 w h=>?_
 have hg9:=eq_of_beq hd8
 refine go h fun w h=>?_
 refine rz ?_
 have hm : n.isMain=true:=by unfold Ct.Node.isMain; rw [hd2,hd5,hd8]; simp
 exact ⟨by rw [hm],h.drop⟩
 have hg10:=ne_of_beq_false hd8
 refine go h fun w h=>?_
 refine rz ?_
 have hm : n.isMain=false:=by unfold Ct.Node.isMain; rw [hd2,hd5,hd8]; rfl
 exact ⟨by rw [hm],h.drop⟩
theorem anewGen_any (ab : Nat) (s : Ct.St) (h : SH B w (arA ab s::L)) (hr : s.size≤100000000000) :
  Calls Tryz.prog 359 #[.pointer (some ⟨ab,0,none⟩)] w fun e w'=>e=.returned (.int .i64 s.newGen.2)∧SH B w' (arA ab s.newGen.1::L):=by
 obtain ⟨⟨pn,cn,pc,cc,zs⟩,hz0,h⟩:=h.ao
 have h : SH B w (bl ab ([.slice pn zs.length cn,.slice pc s.cells.length cc,.int .i64 ((s.gen : Nat) : Int),.int .i64 ((s.acc : Nat) : Int)]) 128::osl 77 14 (.slice pn zs.length cn) zs.length (zs.flatMap nodeP)::osl 36 1 (.slice pc s.cells.length cc) s.cells.length (s.cells.map (Value.int .i64))::nodesF zs::L):=h
 have hzs : zs.map Prod.fst=s.added:=hz0
 clear hz0
 have hz : zs.length=s.added.length:=by rw [← hzs,List.length_map]
 have hrm : s.added.length+s.cells.length+s.gen+s.acc≤100000000000:=hr
 refine bn0 Tryz.func359 Tryz.ntmps359 h fun w h=>?_
 exact rz ⟨rfl,(SH.ai ⟨_,_,_,_,_⟩ hzs h)⟩
theorem anewCell_any (ab : Nat) (s : Ct.St) (i : Int) (h : SH B w (arA ab s::L)) (hr : s.size≤100000000000) :
  Calls Tryz.prog 358 #[.pointer (some ⟨ab,0,none⟩),.int .i64 i] w fun e w'=>e=.returned (.int .i64 (s.newCell i).2)∧SH B w' (arA ab (s.newCell i).1::L):=by
 obtain ⟨⟨pn,cn,pc,cc,zs⟩,hz0,h⟩:=h.ao
 have h : SH B w (bl ab ([.slice pn zs.length cn,.slice pc s.cells.length cc,.int .i64 ((s.gen : Nat) : Int),.int .i64 ((s.acc : Nat) : Int)]) 128::osl 77 14 (.slice pn zs.length cn) zs.length (zs.flatMap nodeP)::osl 36 1 (.slice pc s.cells.length cc) s.cells.length (s.cells.map (Value.int .i64))::nodesF zs::L):=h
 have hzs : zs.map Prod.fst=s.added:=hz0
 clear hz0
 have hz : zs.length=s.added.length:=by rw [← hzs,List.length_map]
 have hrm : s.added.length+s.cells.length+s.gen+s.acc≤100000000000:=hr
 refine bn0 Tryz.func358 Tryz.ntmps358 h fun w h=>?_
 refine sf (bu [.int .i64 i] h Slc.h Ss.h rfl (by kernel_rfl) rfl (by decide) (by decide)) ?_
 rintro _ w ⟨b1,rfl,h⟩
 refine go h fun w h=>?_
 refine sf (ap h Slc.h rfl Ss.h rfl (by decide) rfl rfl (fun _=>u3) (h.ro a0) (by simp [Value.oneCell']) rfl (join_ints _ _) (by unfold maxLen; omega) (by omega)) ?_
 rintro _ w ⟨p2,c3,rfl,h⟩
 refine go h fun w h=>?_
 refine rz ?_
 exact ⟨by simp [Ct.St.newCell],SH.ai ⟨pn,cn,p2,c3,zs⟩ hzs (by unfold arL; dsimp only [Ct.St.newCell]; rw [List.length_append,List.length_singleton]; exact h.drop)⟩
theorem ahas_any (ab : Nat) (vn vg va : Value) (pc : Option Addr) (n cc : Nat) (c : Int) (h : SH B w (bl ab ([vn,.slice pc n cc,vg,va]) 128::L)) :
  Calls Tryz.prog 360 #[.pointer (some ⟨ab,0,none⟩),.int .i64 c] w fun e w'=>e=.returned (.bool (decide (1≤c) && decide (c≤(n : Int))))∧SH B w' (bl ab ([vn,.slice pc n cc,vg,va]) 128::L):=by
 refine bn0 Tryz.func360 Tryz.ntmps360 h fun w h=>?_
 refine qg h (fun hd1 w h=>?_) fun hd1 w h=>?_
 ·have hg2:=of_decide_eq_true hd1
  refine go h fun w h=>?_
  refine rz ?_
  refine ⟨?_,h⟩
  congr 2; simp; omega
 ·have hg3:=of_decide_eq_false hd1
  refine go h fun w h=>?_
  refine rz ?_
  refine ⟨?_,h⟩
  congr 2; simp; omega
theorem anodes_any (ab : Nat) (vc vg va : Value) (pn : Option Addr) (n cn : Nat) (h : SH B w (bl ab ([.slice pn n cn,vc,vg,va]) 128::L)) (hn : n≤200000000000) :
  Calls Tryz.prog 62 #[.pointer (some ⟨ab,0,none⟩)] w fun e w'=>e=.returned (.int .i64 ((2+n : Nat) : Int))∧SH B w' (bl ab ([.slice pn n cn,vc,vg,va]) 128::L):=by
 refine bn0 Tryz.func62 Tryz.ntmps62 h fun w h=>?_
 refine st (ba ((2+n : Nat) : Int))<|go h fun w h=>?_
 exact rz ⟨rfl,h⟩
theorem aload_any (ab : Nat) (s : Ct.St) (c : Int) (h : SH B w (arA ab s::L)) (hr : s.size≤100000000000) :
  Calls Tryz.prog 357 #[.pointer (some ⟨ab,0,none⟩),.int .i64 c] w fun e w'=>e=.returned (.int .i64 (s.load c).2)∧SH B w' (arA ab (s.load c).1::L):=by
 obtain ⟨⟨pn,cn,pc,cc,zs⟩,hz0,h⟩:=h.ao
 have h : SH B w (bl ab ([.slice pn zs.length cn,.slice pc s.cells.length cc,.int .i64 ((s.gen : Nat) : Int),.int .i64 ((s.acc : Nat) : Int)]) 128::osl 77 14 (.slice pn zs.length cn) zs.length (zs.flatMap nodeP)::osl 36 1 (.slice pc s.cells.length cc) s.cells.length (s.cells.map (Value.int .i64))::nodesF zs::L):=h
 have hzs : zs.map Prod.fst=s.added:=hz0
 clear hz0
 have hz : zs.length=s.added.length:=by rw [← hzs,List.length_map]
 have hrm : s.added.length+s.cells.length+s.gen+s.acc≤100000000000:=hr
 refine bn0 Tryz.func357 Tryz.ntmps357 h fun w h=>?_
 refine j000 (ahas_any _ _ _ _ _ _ _ _ h.to) fun w h=>?_
 refine qc h (fun hd1 w h=>?_) fun hd1 w h=>?_
 have hd2 : (decide (1≤c) && decide (c≤((s.cells.length : Nat) : Int)))=false:=(Bool.not_eq_true' _).mp hd1
 refine go h fun w h=>?_
 exact rz ⟨by rw [show (s.load c).2=0 from load_no (by have:=hd2; simp at this; omega)],(SH.ai ⟨_,_,_,_,_⟩ hzs h)⟩
 have hd3 : (decide (1≤c) && decide (c≤((s.cells.length : Nat) : Int)))=true:=(Bool.not_eq_false' _).mp hd1
 refine go h fun w h=>?_
 obtain ⟨hc1,hc2⟩ : 1≤c∧c≤((s.cells.length : Nat) : Int):=by simpa using hd3
 obtain ⟨j,hj⟩ : ∃ j : Nat,c - 1=((j : Nat) : Int) :=⟨(c - 1).toNat,by omega⟩
 refine st (bs ((j : Nat) : Int))<|go h fun w h=>?_
 obtain ⟨b4,rfl⟩:=h.fp a2 (by omega)
 refine go h fun w h=>?_
 exact rz ⟨by rw [show (s.load c).2=s.cells.getD j 0 from load_yes hj (by omega)],(SH.ai ⟨_,_,_,_,_⟩ hzs h)⟩
theorem acas_any (ab : Nat) (s : Ct.St) (c o n : Int) (h : SH B w (arA ab s::L)) (hr : s.size≤100000000000) :
  Calls Tryz.prog 356 #[.pointer (some ⟨ab,0,none⟩),.int .i64 c,.int .i64 o,.int .i64 n] w fun e w'=>e=.returned (.bool (s.cas c o n).2)∧SH B w' (arA ab (s.cas c o n).1::L):=by
 obtain ⟨⟨pn,cn,pc,cc,zs⟩,hz0,h⟩:=h.ao
 have h : SH B w (bl ab ([.slice pn zs.length cn,.slice pc s.cells.length cc,.int .i64 ((s.gen : Nat) : Int),.int .i64 ((s.acc : Nat) : Int)]) 128::osl 77 14 (.slice pn zs.length cn) zs.length (zs.flatMap nodeP)::osl 36 1 (.slice pc s.cells.length cc) s.cells.length (s.cells.map (Value.int .i64))::nodesF zs::L):=h
 have hzs : zs.map Prod.fst=s.added:=hz0
 clear hz0
 have hz : zs.length=s.added.length:=by rw [← hzs,List.length_map]
 have hrm : s.added.length+s.cells.length+s.gen+s.acc≤100000000000:=hr
 refine bn0 Tryz.func356 Tryz.ntmps356 h fun w h=>?_
 refine j000 (ahas_any _ _ _ _ _ _ _ _ h.to) fun w h=>?_
 refine qg h (fun hd1 w h=>?_) fun hd1 w h=>?_
 have hd2 : (decide (1≤c) && decide (c≤((s.cells.length : Nat) : Int)))=false:=(Bool.not_eq_true' _).mp hd1
 refine go h fun w h=>?_
 refine rz ?_
 rw [cas_no (by have:=hd2; simp at this; omega)]; exact ⟨rfl,(SH.ai ⟨_,_,_,_,_⟩ hzs h)⟩
 have hd3 : (decide (1≤c) && decide (c≤((s.cells.length : Nat) : Int)))=true:=(Bool.not_eq_false' _).mp hd1
 refine go h fun w h=>?_
 obtain ⟨hc1,hc2⟩ : 1≤c∧c≤((s.cells.length : Nat) : Int):=by simpa using hd3
 obtain ⟨j,hj⟩ : ∃ j : Nat,c - 1=((j : Nat) : Int) :=⟨(c - 1).toNat,by omega⟩
 refine st (bs ((j : Nat) : Int))<|go h fun w h=>?_
 obtain ⟨b4,rfl⟩:=h.fp a2 (by omega)
 refine go h fun w h=>?_
 refine qc h (fun hd5 w h=>?_) fun hd5 w h=>?_
 have hg6:=bne_iff_ne.1 hd5
 refine go h fun w h=>?_
 refine rz ?_
 rw [cas_ne hj (by omega) (by omega)]; exact ⟨rfl,(SH.ai ⟨_,_,_,_,_⟩ hzs h)⟩
 have hg7:=eq_of_bneF hd5
 refine go h fun w h=>?_
 refine st (bs ((j : Nat) : Int))<|go h fun w h=>?_
 refine sf (soi h Sz.h rfl rfl (by omega) u2) ?_
 rintro _ w h
 refine go h fun w h=>?_
 refine rz ?_
 rw [cas_yes hj (by omega) (by omega)]; exact ⟨rfl,SH.ai ⟨pn,cn,some ⟨b4,0,none⟩,cc,zs⟩ hzs (by unfold arL; dsimp only; rw [List.length_set]; exact h)⟩
theorem anode_any (ab : Nat) (s : Ct.St) (r : Int) (h : SH B w (arA ab s::L)) (hr : s.size≤100000000000) (hf : Ct.AllFit s) :
  Calls Tryz.prog 64 #[.pointer (some ⟨ab,0,none⟩),.int .i64 r] w fun e w'=>∃ q,e=.returned (.agg (nodeC (s.node r) q).toArray)∧SH B w' (nodeR (s.node r) q::arA ab s::L):=by
 obtain ⟨⟨pn,cn,pc,cc,zs⟩,hz0,h⟩:=h.ao
 have h : SH B w (bl ab ([.slice pn zs.length cn,.slice pc s.cells.length cc,.int .i64 ((s.gen : Nat) : Int),.int .i64 ((s.acc : Nat) : Int)]) 128::osl 77 14 (.slice pn zs.length cn) zs.length (zs.flatMap nodeP)::osl 36 1 (.slice pc s.cells.length cc) s.cells.length (s.cells.map (Value.int .i64))::nodesF zs::L):=h
 have hzs : zs.map Prod.fst=s.added:=hz0
 clear hz0
 have hz : zs.length=s.added.length:=by rw [← hzs,List.length_map]
 have hrm : s.added.length+s.cells.length+s.gen+s.acc≤100000000000:=hr
 refine bn0 Tryz.func64 Tryz.ntmps64 h fun w h=>?_
 refine jA h fun b1 w h=>?_
 refine qg h (fun hd2 w h=>?_) fun hd2 w h=>?_
 ·have hg3:=of_decide_eq_true hd2
  refine go h fun w h=>?_
  refine rr (resC rfl rfl (h.b a0) Row.h) ?_
  rw [node_no s r (by omega)]; exact ⟨{},rfl,SH.nilN _ rfl rfl (SH.ai ⟨_,_,_,_,_⟩ hzs h.drop)⟩
 ·have hg4:=of_decide_eq_false hd2
  refine go h fun w h=>?_
  refine j000 (anodes_any _ _ _ _ _ _ _ h.to (by omega)) fun w h=>?_
  refine qc h (fun hd5 w h=>?_) fun hd5 w h=>?_
  ·have hg6:=of_decide_eq_true hd5
   refine go h fun w h=>?_
   refine rr (resC rfl rfl (h.b a1) Row.h) ?_
   rw [node_no s r (by omega)]; exact ⟨{},rfl,SH.nilN _ rfl rfl (SH.ai ⟨_,_,_,_,_⟩ hzs (h.fr (.c r1 .n)).drop)⟩
  ·have hg7:=of_decide_eq_false hd5
   refine go h fun w h=>?_
   refine qc h (fun hd8 w h=>?_) fun hd8 w h=>?_
   ·have hg9:=of_decide_eq_true hd8
    refine go h fun w h=>?_
    refine rr (resC rfl rfl (h.b a1) Row.h) ?_
    rw [node_mark s (r:=r) (by omega) (by omega)]; exact ⟨{},rfl,SH.nilN _ rfl rfl (SH.ai ⟨_,_,_,_,_⟩ hzs (h.fr (.c r1 .n)).drop)⟩
   ·have hg10:=of_decide_eq_false hd8
    refine go h fun w h=>?_
    refine st (bs (r - 2))<|go h fun w h=>?_
    obtain ⟨j,hj⟩ : ∃ j : Nat,r - 2 - 1=((j : Nat) : Int) :=⟨(r - 2 - 1).toNat,by omega⟩
    refine st (bs ((j : Nat) : Int))<|go h fun w h=>?_
    obtain ⟨b11,rfl⟩:=h.fp a2 (by omega)
    refine go h fun w h=>?_
    refine st (ldr rfl ((h.ro a2).x nodeP_len (by decide) (by omega) ({},{})) Row.h)<|go h fun w h=>?_
    obtain ⟨hm,hn⟩:=anode_at hzs hj (by omega)
    have h:=h.getN a4 hm
    have hfj:=hf.node r
    rw [← hn] at hfj
    refine j100 (clone_any _ _ h.to (fit_lens hfj (by omega)).1 (fit_lens hfj (by omega)).2) fun q12 w h=>?_
    refine rr (resC rfl rfl (h.b a2) Row.h) ?_
    rw [← hn]; exact ⟨_,rfl,((SH.ai ⟨_,_,_,_,_⟩ hzs ((h.fr (.c r2 .n)).drop.fr (.c r1 (.c r1 (.c r1 (.c r1 .n)))))).fr (.c r1 .n))⟩
section
attribute [local semireducible] Go.E.wpL Go.E.wpS Go.E.X Go.E.XS Go.E.C Go.E.thn Go.E.blk Go.E.fin Go.E.Y Go.E.U Go.E.F Go.E.Ca Go.E.Res Go.E.bl Go.E.rb Go.E.osl Go.E.rsl Go.E.ex Go.E.ce Go.E.pu Go.E.sK Go.E.gK Go.E.bK Go.E.zK Go.E.boxA Go.E.cloA Go.E.codeA clA cdA
attribute [local irreducible] Go.E.wpL Go.E.wpS
variable {B w : World} {L : List As}
theorem aalloc_any (ab : Nat) (s : Ct.St) (n : Ct.Node) (q : Lq) (i : Int) (h : SH B w (nodeR n q::arA ab s::L)) (hr : s.size≤100000000000) (hb : n.branches.length≤1000000) (hp : n.pairs.length≤200000000000) :
  Calls Tryz.prog 355 #[.pointer (some ⟨ab,0,none⟩),.agg (nodeC n q).toArray,.int .i64 i] w fun e w'=>e=.returned (.int .i64 (s.alloc n i).2)∧SH B w' (arA ab (s.alloc n i).1::L):=by
 refine bgn (args:=[_,_,_]) Tryz.func355 rfl Tryz.ntmps355 rfl ?_
 refine sq<|rg<|sf (bx h rfl rfl)<|?_
 rintro _ w ⟨b1,rfl,h⟩
 refine st (sg rfl)<|xe<|nx<|sq<|rg<|st (ldr rfl (rows_all (h.b a0)) row_77)<|cl (ca en_99 rfl) ((clone_any n q (h.fr (.c r1 .n)) hb hp).mono ?_)
 rintro _ w ⟨q2,rfl,h⟩
 refine ⟨_,rfl,?_⟩
 refine sf (so h rfl rfl rfl sz_77 rfl (.r (.r (.r (.r (.r (.r (.r (.r (.r (.r (.r (.r (.r (.r .d)))))))))))))) u1)<|?_
 rintro _ w h
 refine xe<|nx<|sq<|rg<|st (fa fo_77_2 rfl)<|sf (so h rfl rfl rfl sz_33 rfl (.s (.s (.r .d))) u1)<|?_
 rintro _ w h
 refine st (fa fo_77_9 rfl)<|sf (so h rfl rfl rfl sz_33 rfl (.s (.s (.s (.s (.s (.s (.s (.s (.s (.r .d)))))))))) u1)<|?_
 rintro _ w h
 refine st (fa fo_77_13 rfl)<|sf (so h rfl rfl rfl sz_33 rfl (.s (.s (.s (.s (.s (.s (.s (.s (.s (.s (.s (.s (.s (.r .d)))))))))))))) u1)<|?_
 rintro _ w h
 refine xe<|nx<|?_
 refine sm (fun e w=>∃ s1 : Ct.St,∃ c2 : Int,∃ c9 : Int,∃ c13 : Int,Sub 47 e (.c 0 (.pointer (some ⟨ab,0,none⟩)) (.c 4 (.pointer (some ⟨b1,0,none⟩)) .n))∧SH B w (bl b1 ([.int .i64 n.kind,.int .i64 n.gen,.int .i64 c2,.int .u64 ((n.bitmap : Nat) : Int),.slice q2.pb n.branches.length q2.cb,.int .u64 ((n.hash : Nat) : Int),.string n.key,.int .u64 ((n.value : Nat) : Int),.slice q2.pp n.pairs.length q2.cp,.int .i64 c9,.int .i64 n.old,.int .i64 n.expected,.int .i64 n.new,.int .i64 c13]) 77::nodeR n q2::arA ab s1::L)∧(s.alloc n i=({ s1 with added:=s1.added ++ [{ n.bare with main:=c2,prev:=c9,status:=c13 }] },(s.added.length : Int)+3))∧(s1.added=s.added)∧(s1.size≤s.size+1)) ?_ ?_
 ·refine bk<|sq<|rg<|st (fa fo_77_0 rfl)<|st (ld one_3 rfl (h.c a1 rfl))<|st (bi rfl rfl rfl)<|st (sg rfl)<|xe<|nx<|?_
  rcases Bool.eq_false_or_eq_true ((n.kind : Int)==2) with hd3 | hd3
  ·have hg4:=eq_of_beq hd3
   refine ct rfl hd3<|rg<|st (mv rfl)<|st (mv rfl)<|cl (ca en_358 rfl) ((anewCell_any ab s i (h.fr (.c r2 .n)) (by omega)).mono ?_)
   rintro _ w ⟨rfl,h⟩
   refine ⟨_,rfl,?_⟩
   refine st (fa fo_77_2 rfl)<|sf (so h rfl rfl rfl sz_33 rfl (.s (.s (.r .d))) u2)<|?_
   rintro _ w h
   refine xe<|bn<|nx<|?_
   exact ⟨(s.newCell i).1,(s.newCell i).2,0,0,⟨rfl,rfl,trivial⟩,(h.fr (.c r2 (.c r1 (.c r0 .n)))),alloc_2 s n i (eq_of_beq hd3),rfl,(by simp only [Ct.St.newCell,Ct.St.size,List.length_append,List.length_singleton]; omega)⟩
  ·have hg5:=ne_of_beq_false hd3
   refine cf rfl hd3<|sq<|rg<|st (ldr rfl (rows_all (h.b a1)) row_77)<|cl (ca en_183 rfl) ((nodeMain_any ({ n with main:=0,prev:=0,status:=0 }) q2 (h.fr .n)).mono ?_)
   rintro _ w ⟨rfl,h⟩
   refine ⟨_,rfl,?_⟩
   refine st (sg rfl)<|xe<|nx<|?_
   rcases Bool.eq_false_or_eq_true n.isMain with hd6 | hd6
   ·refine ct rfl hd6<|rg<|st (mv rfl)<|st (mv rfl)<|cl (ca en_358 rfl) ((anewCell_any ab s i (h.fr (.c r2 .n)) (by omega)).mono ?_)
    rintro _ w ⟨rfl,h⟩
    refine ⟨_,rfl,?_⟩
    refine st (fa fo_77_9 rfl)<|sf (so h rfl rfl rfl sz_33 rfl (.s (.s (.s (.s (.s (.s (.s (.s (.s (.r .d)))))))))) u2)<|?_
    rintro _ w h
    refine xe<|bn<|nx<|?_
    exact ⟨(s.newCell i).1,0,(s.newCell i).2,0,⟨rfl,rfl,trivial⟩,(h.fr (.c r2 (.c r1 (.c r0 .n)))),alloc_m s n i (isMain_kind hd6),rfl,(by simp only [Ct.St.newCell,Ct.St.size,List.length_append,List.length_singleton]; omega)⟩
   ·refine cf rfl hd6<|sq<|rg<|st (fa fo_77_0 rfl)<|st (ld one_3 rfl (h.c a1 rfl))<|st (bi rfl rfl rfl)<|st (sg rfl)<|xe<|nx<|?_
    rcases Bool.eq_false_or_eq_true ((n.kind : Int)==8) with hd7 | hd7
    ·have hg8:=eq_of_beq hd7
     refine ct rfl hd7<|rg<|st (mv rfl)<|st (mv rfl)<|cl (ca en_358 rfl) ((anewCell_any ab s i (h.fr (.c r2 .n)) (by omega)).mono ?_)
     rintro _ w ⟨rfl,h⟩
     refine ⟨_,rfl,?_⟩
     refine st (fa fo_77_13 rfl)<|sf (so h rfl rfl rfl sz_33 rfl (.s (.s (.s (.s (.s (.s (.s (.s (.s (.s (.s (.s (.s (.r .d)))))))))))))) u2)<|?_
     rintro _ w h
     refine xe<|bn<|nx<|?_
     exact ⟨(s.newCell i).1,0,0,(s.newCell i).2,⟨rfl,rfl,trivial⟩,(h.fr (.c r2 (.c r1 (.c r0 .n)))),alloc_8 s n i (eq_of_beq hd7),rfl,(by simp only [Ct.St.newCell,Ct.St.size,List.length_append,List.length_singleton]; omega)⟩
    ·have hg9:=ne_of_beq_false hd7
     refine cf rfl hd7<|sk<|bn<|nx<|?_
     exact ⟨s,0,0,0,⟨rfl,rfl,trivial⟩,(h.fr (.c r1 (.c r0 (.c r0 .n)))),alloc_0 s n i (kind_none (ne_of_beq_false hd3) hd6 (ne_of_beq_false hd7)),rfl,(by omega)⟩
 rintro e w ⟨s1,c2,c9,c13,hE,h,ha,hs1,hr1⟩
 refine C.sub hE ?_
 clear hE e
 refine sq<|?_
 have hrm : s1.added.length+s1.cells.length+s1.gen+s1.acc≤100000000001:=Nat.le_trans hr1 (by omega)
 have h:=h.fr (.c r2 .n)
 obtain ⟨⟨pn,cn,pc,cc,zs⟩,hz0,h⟩:=h.ao
 have h : SH B w (bl ab ([.slice pn zs.length cn,.slice pc s1.cells.length cc,.int .i64 ((s1.gen : Nat) : Int),.int .i64 ((s1.acc : Nat) : Int)]) 128::osl 77 14 (.slice pn zs.length cn) zs.length (zs.flatMap nodeP)::osl 36 1 (.slice pc s1.cells.length cc) s1.cells.length (s1.cells.map (Value.int .i64))::nodesF zs::bl b1 ([.int .i64 n.kind,.int .i64 n.gen,.int .i64 c2,.int .u64 ((n.bitmap : Nat) : Int),.slice q2.pb n.branches.length q2.cb,.int .u64 ((n.hash : Nat) : Int),.string n.key,.int .u64 ((n.value : Nat) : Int),.slice q2.pp n.pairs.length q2.cp,.int .i64 c9,.int .i64 n.old,.int .i64 n.expected,.int .i64 n.new,.int .i64 c13]) 77::nodeR n q2::L):=h
 have hzs : zs.map Prod.fst=s1.added:=hz0
 clear hz0
 have hz : zs.length=s1.added.length:=by rw [← hzs,List.length_map]
 refine drG (F:=[bl ab ([.slice pn zs.length cn,.slice pc s1.cells.length cc,.int .i64 ((s1.gen : Nat) : Int),.int .i64 ((s1.acc : Nat) : Int)]) 128,bl b1 ([.int .i64 n.kind,.int .i64 n.gen,.int .i64 c2,.int .u64 ((n.bitmap : Nat) : Int),.slice q2.pb n.branches.length q2.cb,.int .u64 ((n.hash : Nat) : Int),.string n.key,.int .u64 ((n.value : Nat) : Int),.slice q2.pp n.pairs.length q2.cp,.int .i64 c9,.int .i64 n.old,.int .i64 n.expected,.int .i64 n.new,.int .i64 c13]) 77]) [(true,[1,3,5,7,9,11,12,14,17,19]),(false,[20])] (by kernel_rfl) h (fun w h=>(hC (h.at_ a0) (hC (h.at_ a4) hN))) fun w h=>sgT<|tk (fun W H=>mv rfl)<|tk (fun W H=>mv rfl)<|tk (fun W H=>nc rfl rfl)<|tk (fun W H=>fa fo_128_0 rfl)<|tk (fun W H=>ld one_59 rfl (H.c a0 rfl))<|tk (fun W H=>ldr rfl (rows_all (H.b a1)) row_77)<|ff (bu [.int .i64 n.kind,.int .i64 n.gen,.int .i64 c2,.int .u64 ((n.bitmap : Nat) : Int),.slice q2.pb n.branches.length q2.cb,.int .u64 ((n.hash : Nat) : Int),.string n.key,.int .u64 ((n.value : Nat) : Int),.slice q2.pp n.pairs.length q2.cp,.int .i64 c9,.int .i64 n.old,.int .i64 n.expected,.int .i64 n.new,.int .i64 c13] h sl_59 ss_77 rfl (by kernel_rfl) rfl (by decide) (by decide))<|?_
 rintro _ w ⟨b10,rfl,h⟩
 refine ⟨(hC (h.at_ a1) (hC (h.at_ a5) hN)),?_⟩
 refine ff (ap h sl_59 rfl ss_77 rfl (by decide) rfl rfl (fun _=>u2) (h.ro a0) (by simp [Value.oneCell']) rfl (join_rows (enc:=nodeP) _ ({ n.bare with main:=c2,prev:=c9,status:=c13 },q2)) (by unfold maxLen; omega) (by omega))<|?_
 rintro _ w ⟨p11,c12,rfl,h⟩
 refine ⟨(hC (h.at_ a1) (hC (h.at_ a5) hN)),?_⟩
 refine tk (fun W H=>nc rfl rfl)<|tk (fun W H=>fa fo_128_0 rfl)<|xgF<|ff (so h rfl rfl rfl sz_59 rfl (.r .d) u1)<|?_
 rintro _ w h
 refine ⟨trivial,?_⟩
 refine xz<|nx<|sq<|rg<|st (mv rfl)<|cl (ca en_62 rfl) ((anodes_any ab _ _ _ _ _ _ (h.fr (.c r1 .n)) (by omega)).mono ?_)
 rintro _ w ⟨rfl,h⟩
 refine ⟨_,rfl,?_⟩
 refine st (sg rfl)<|xe<|nx<|rt<|?_
 refine rr (res1 Tryz.results355 rfl)<|?_
 rw [ha]
 have h:=(SH.se (l:=[_,_]) ((h.fr (.c r1 (.c r4 .n))).drop.drop.fr (.c r4 (.c r3 (.c r0 (.c r0 (.c r0 .n)))))))
 have h:=SH.addN (n:={ n.bare with main:=c2,prev:=c9,status:=c13 }) (q:=q2) h
 refine ⟨?_,SH.ai ⟨p11,c12,pc,cc,zs ++ [({ n.bare with main:=c2,prev:=c9,status:=c13 },q2)]⟩ ?_ ?_⟩
 ·rw [hz,hs1]; congr 2; omega
 ·rw [List.map_append,hzs]; rfl
 ·unfold arL; dsimp only; rw [List.length_append,List.length_singleton]; exact h.fr (.c r1 (.c r1 (.c r1 (.c r0 .n))))
end
end Go.Proofs.YtmliojdkmfhmmaaGreat
end
