/- Parts of a proof: Rm, Ryc. -/
import Derived.Test.YtmliojdkmfhmmaaGreatW09
import Derived.Test.YtmliojdkmfhmmaaGreatW13
set_option linter.unusedVariables false
set_option linter.unusedSimpArgs false
set_option maxRecDepth 100000
set_option maxHeartbeats 4000000
section
namespace Go.Proofs.YtmliojdkmfhmmaaGreat
attribute [local irreducible] Go.E.wpL Go.E.wpS Go.E.X Go.E.XS Go.E.C Go.E.thn Go.E.blk Go.E.fin Go.E.Y Go.E.U Go.E.F Go.E.Ca Go.E.Res Go.E.bl Go.E.rb Go.E.osl Go.E.rsl Go.E.ex Go.E.ce Go.E.pu Go.E.sK Go.E.gK Go.E.bK Go.E.zK
open Go.RowKit Go.E
theorem zs_len {zs : List (Ct.Node × Lq)} {s : Ct.St} (h : zs.map Prod.fst=nodesOf s) : zs.length=2+s.added.length:=by
 have:=congrArg List.length h
 rw [List.length_map] at this
 rw [this]; unfold nodesOf; simp; omega
theorem load_yes {s : Ct.St} {c : Int} {j : Nat} (h : c - 1=(j : Int)) (hj : j<s.cells.length) : (s.load c).2=s.cells.getD j 0:=by
 have e : c.toNat - 1=j:=by omega
 unfold Ct.St.load Ct.St.hasCell
 dsimp only
 rw [if_pos (by simp; omega),e]
theorem load_no {s : Ct.St} {c : Int} (h : c<1∨(s.cells.length : Int)<c) : (s.load c).2=0:=by
 unfold Ct.St.load Ct.St.hasCell
 dsimp only
 rw [if_neg (by simp; omega)]
theorem swaps_no {s : Ct.St} {c o : Int} (h : c<1∨(s.cells.length : Int)<c) : s.swaps c o=false:=by
 unfold Ct.St.swaps Ct.St.hasCell
 rw [show (decide (1≤c) && decide (c≤(s.cells.length : Int)))=false by simp; omega]; rfl
theorem swaps_at {s : Ct.St} {c o : Int} {j : Nat} (h : c - 1=(j : Int)) (hj : j<s.cells.length) : s.swaps c o=(s.cells.getD j 0==o):=by
 have e : c.toNat - 1=j:=by omega
 unfold Ct.St.swaps Ct.St.hasCell
 rw [show (decide (1≤c) && decide (c≤(s.cells.length : Int)))=true by simp; omega,e]; rfl
theorem cas_no {s : Ct.St} {c o n : Int} (h : c<1∨(s.cells.length : Int)<c) : s.cas c o n=({ s with acc:=s.acc+1 },false):=by
 unfold Ct.St.cas; rw [swaps_no h]; rfl
theorem cas_ne {s : Ct.St} {c o n : Int} {j : Nat} (h : c - 1=(j : Int)) (hj : j<s.cells.length) (hv : s.cells.getD j 0≠o) : s.cas c o n=({ s with acc:=s.acc+1 },false):=by
 unfold Ct.St.cas; rw [swaps_at h hj,beq_eq_false_iff_ne.2 hv]; rfl
theorem cas_yes {s : Ct.St} {c o n : Int} {j : Nat} (h : c - 1=(j : Int)) (hj : j<s.cells.length) (hv : s.cells.getD j 0=o) : s.cas c o n=({ s with acc:=s.acc+1,cells:=s.cells.set j n },true):=by
 have e : c.toNat - 1=j:=by omega
 unfold Ct.St.cas; rw [swaps_at h hj,beq_iff_eq.2 hv,e]; rfl
theorem alloc_2 (s : Ct.St) (n : Ct.Node) (i : Int) (h : n.kind=2) : s.alloc n i=({ (s.newCell i).1 with added:=(s.newCell i).1.added ++ [{ n.bare with main:=(s.newCell i).2,prev:=0,status:=0 }] },(s.added.length : Int)+3):=by
 simp [Ct.St.alloc,Ct.St.newCell,h,Ct.Node.bare]
theorem alloc_m (s : Ct.St) (n : Ct.Node) (i : Int) (h : n.kind=3∨n.kind=5∨n.kind=6) : s.alloc n i=({ (s.newCell i).1 with added:=(s.newCell i).1.added ++ [{ n.bare with main:=0,prev:=(s.newCell i).2,status:=0 }] },(s.added.length : Int)+3):=by
 rcases h with h | h | h <;> simp [Ct.St.alloc,Ct.St.newCell,h,Ct.Node.bare,Ct.Node.isMain]
theorem alloc_8 (s : Ct.St) (n : Ct.Node) (i : Int) (h : n.kind=8) : s.alloc n i=({ (s.newCell i).1 with added:=(s.newCell i).1.added ++ [{ n.bare with main:=0,prev:=0,status:=(s.newCell i).2 }] },(s.added.length : Int)+3):=by
 simp [Ct.St.alloc,Ct.St.newCell,h,Ct.Node.bare,Ct.Node.isMain]
theorem alloc_0 (s : Ct.St) (n : Ct.Node) (i : Int) (h : n.kind≠2∧n.kind≠3∧n.kind≠5∧n.kind≠6∧n.kind≠8) : s.alloc n i=({ s with added:=s.added ++ [{ n.bare with main:=0,prev:=0,status:=0 }] },(s.added.length : Int)+3):=by
 obtain ⟨h1,h2,h3,h4,h5⟩:=h
 simp [Ct.St.alloc,Ct.St.newCell,h1,h2,h3,h4,h5,Ct.Node.bare,Ct.Node.isMain]
theorem node_no (s : Ct.St) (r : Int) (h : r<1∨((2+s.added.length : Nat) : Int)<r) : s.node r={}:=by
 unfold Ct.St.node Ct.St.nodes; rw [if_pos h]
theorem node_at {zs : List (Ct.Node × Lq)} {s : Ct.St} (h : zs.map Prod.fst=nodesOf s) {r : Int} {j : Nat} (hj : r - 1=(j : Int)) (hl : j<zs.length) : zs.getD j ({},{}) ∈ zs∧(zs.getD j ({},{})).1=s.node r:=by
 have e : zs.getD j ({},{})=zs[j]:=by rw [List.getD_eq_getElem?_getD,List.getElem?_eq_getElem hl]; rfl
 have hz:=zs_len h
 rw [e]
 refine ⟨List.getElem_mem _,?_⟩
 have h1 : (zs.map Prod.fst)[j]? = some zs[j].1:=by rw [List.getElem?_map,List.getElem?_eq_getElem hl]; rfl
 rw [h] at h1
 unfold Ct.St.node Ct.St.nodes
 rw [if_neg (by omega)]
 unfold nodesOf at h1
 by_cases h2 : r≤2
 ·rw [if_pos h2]
  rcases j with _ | _ | k
  ·simpa using h1.symm
  ·simpa using h1.symm
  ·omega
 ·rw [if_neg h2]
  rcases j with _ | _ | k
  ·omega
  ·omega
  ·have e2 : r.toNat - 3=k:=by omega
   rw [e2,List.getD_eq_getElem?_getD]
   simp only [List.getElem?_cons_succ] at h1
   rw [h1]; rfl
variable {B w : World} {L : List As}
theorem newGen_any (mb : Nat) (s : Ct.St) (h : SH B w (memA mb s::L)) (hr : s.size≤100000000000) :
  Calls Tryz.prog 83 #[.pointer (some ⟨mb,0,none⟩)] w fun e w'=>e=.returned (.int .i64 s.newGen.2)∧SH B w' (memA mb s.newGen.1::L):=by
 obtain ⟨⟨pn,cn,pc,cc,zs⟩,hz0,h⟩:=h.mo
 have h : SH B w (bl mb ([.slice pn zs.length cn,.slice pc s.cells.length cc,.int .i64 ((s.gen : Nat) : Int),.int .i64 ((s.acc : Nat) : Int)]) 64::osl 77 14 (.slice pn zs.length cn) zs.length (zs.flatMap nodeP)::osl 36 1 (.slice pc s.cells.length cc) s.cells.length (s.cells.map (Value.int .i64))::nodesF zs::L):=h
 have hzs : zs.map Prod.fst=nodesOf s:=hz0
 clear hz0
 have hz : zs.length=2+s.added.length:=zs_len hzs
 have hrm : s.added.length+s.cells.length+s.gen+s.acc≤100000000000:=hr
 refine bn0 Tryz.func83 Tryz.ntmps83 h fun w h=>?_
 exact rz ⟨rfl,(SH.mi ⟨_,_,_,_,_⟩ hzs (h))⟩
theorem newCell_any (mb : Nat) (s : Ct.St) (i : Int) (h : SH B w (memA mb s::L)) (hr : s.size≤100000000000) :
  Calls Tryz.prog 84 #[.pointer (some ⟨mb,0,none⟩),.int .i64 i] w fun e w'=>e=.returned (.int .i64 (s.newCell i).2)∧SH B w' (memA mb (s.newCell i).1::L):=by
 obtain ⟨⟨pn,cn,pc,cc,zs⟩,hz0,h⟩:=h.mo
 have h : SH B w (bl mb ([.slice pn zs.length cn,.slice pc s.cells.length cc,.int .i64 ((s.gen : Nat) : Int),.int .i64 ((s.acc : Nat) : Int)]) 64::osl 77 14 (.slice pn zs.length cn) zs.length (zs.flatMap nodeP)::osl 36 1 (.slice pc s.cells.length cc) s.cells.length (s.cells.map (Value.int .i64))::nodesF zs::L):=h
 have hzs : zs.map Prod.fst=nodesOf s:=hz0
 clear hz0
 have hz : zs.length=2+s.added.length:=zs_len hzs
 have hrm : s.added.length+s.cells.length+s.gen+s.acc≤100000000000:=hr
 refine bn0 Tryz.func84 Tryz.ntmps84 h fun w h=>?_
 refine sf (bu [.int .i64 i] h Slc.h Ss.h rfl (by kernel_rfl) rfl (by decide) (by decide)) ?_
 rintro _ w ⟨b1,rfl,h⟩
 refine go h fun w h=>?_
 refine sf (ap h Slc.h rfl Ss.h rfl (by decide) rfl rfl (fun _=>u3) (h.ro a0) (by simp [Value.oneCell']) rfl (join_ints _ _) (by unfold maxLen; omega) (by omega)) ?_
 rintro _ w ⟨p2,c3,rfl,h⟩
 refine go h fun w h=>?_
 refine rz ?_
 exact ⟨by simp [Ct.St.newCell],SH.mi ⟨pn,cn,p2,c3,zs⟩ hzs (by unfold memL; dsimp only [Ct.St.newCell]; rw [List.length_append,List.length_singleton]; exact h.drop)⟩
theorem load_any (mb : Nat) (s : Ct.St) (c : Int) (h : SH B w (memA mb s::L)) (hr : s.size≤100000000000) :
  Calls Tryz.prog 255 #[.pointer (some ⟨mb,0,none⟩),.int .i64 c] w fun e w'=>e=.returned (.int .i64 (s.load c).2)∧SH B w' (memA mb (s.load c).1::L):=by
 obtain ⟨⟨pn,cn,pc,cc,zs⟩,hz0,h⟩:=h.mo
 have h : SH B w (bl mb ([.slice pn zs.length cn,.slice pc s.cells.length cc,.int .i64 ((s.gen : Nat) : Int),.int .i64 ((s.acc : Nat) : Int)]) 64::osl 77 14 (.slice pn zs.length cn) zs.length (zs.flatMap nodeP)::osl 36 1 (.slice pc s.cells.length cc) s.cells.length (s.cells.map (Value.int .i64))::nodesF zs::L):=h
 have hzs : zs.map Prod.fst=nodesOf s:=hz0
 clear hz0
 have hz : zs.length=2+s.added.length:=zs_len hzs
 have hrm : s.added.length+s.cells.length+s.gen+s.acc≤100000000000:=hr
 refine bn0 Tryz.func255 Tryz.ntmps255 h fun w h=>?_
 refine qg h (fun hd1 w h=>?_) fun hd1 w h=>?_
 have hg2:=of_decide_eq_true hd1
 refine go h fun w h=>?_
 exact rz ⟨by rw [show (s.load c).2=0 from load_no (by omega)],(SH.mi ⟨_,_,_,_,_⟩ hzs (h))⟩
 have hg3:=of_decide_eq_false hd1
 refine go h fun w h=>?_
 refine qc h (fun hd4 w h=>?_) fun hd4 w h=>?_
 have hg5:=of_decide_eq_true hd4
 refine go h fun w h=>?_
 exact rz ⟨by rw [show (s.load c).2=0 from load_no (by omega)],(SH.mi ⟨_,_,_,_,_⟩ hzs (h))⟩
 have hg6:=of_decide_eq_false hd4
 refine go h fun w h=>?_
 obtain ⟨j,hj⟩ : ∃ j : Nat,c - 1=((j : Nat) : Int) :=⟨(c - 1).toNat,by omega⟩
 refine st (bs ((j : Nat) : Int))<|go h fun w h=>?_
 obtain ⟨b7,rfl⟩:=h.fp a2 (by omega)
 refine go h fun w h=>?_
 exact rz ⟨by rw [show (s.load c).2=s.cells.getD j 0 from load_yes hj (by omega)],(SH.mi ⟨_,_,_,_,_⟩ hzs (h))⟩
theorem cas_any (mb : Nat) (s : Ct.St) (c o n : Int) (h : SH B w (memA mb s::L)) (hr : s.size≤100000000000) :
  Calls Tryz.prog 257 #[.pointer (some ⟨mb,0,none⟩),.int .i64 c,.int .i64 o,.int .i64 n] w fun e w'=>e=.returned (.bool (s.cas c o n).2)∧SH B w' (memA mb (s.cas c o n).1::L):=by
 obtain ⟨⟨pn,cn,pc,cc,zs⟩,hz0,h⟩:=h.mo
 have h : SH B w (bl mb ([.slice pn zs.length cn,.slice pc s.cells.length cc,.int .i64 ((s.gen : Nat) : Int),.int .i64 ((s.acc : Nat) : Int)]) 64::osl 77 14 (.slice pn zs.length cn) zs.length (zs.flatMap nodeP)::osl 36 1 (.slice pc s.cells.length cc) s.cells.length (s.cells.map (Value.int .i64))::nodesF zs::L):=h
 have hzs : zs.map Prod.fst=nodesOf s:=hz0
 clear hz0
 have hz : zs.length=2+s.added.length:=zs_len hzs
 have hrm : s.added.length+s.cells.length+s.gen+s.acc≤100000000000:=hr
 refine bn0 Tryz.func257 Tryz.ntmps257 h fun w h=>?_
 refine qg h (fun hd1 w h=>?_) fun hd1 w h=>?_
 have hg2:=of_decide_eq_true hd1
 refine go h fun w h=>?_
 refine rz ?_
 rw [cas_no (by omega)]; exact ⟨rfl,(SH.mi ⟨_,_,_,_,_⟩ hzs (h))⟩
 have hg3:=of_decide_eq_false hd1
 refine go h fun w h=>?_
 refine qg h (fun hd4 w h=>?_) fun hd4 w h=>?_
 have hg5:=of_decide_eq_true hd4
 refine go h fun w h=>?_
 refine rz ?_
 rw [cas_no (by omega)]; exact ⟨rfl,(SH.mi ⟨_,_,_,_,_⟩ hzs (h))⟩
 have hg6:=of_decide_eq_false hd4
 refine go h fun w h=>?_
 obtain ⟨j,hj⟩ : ∃ j : Nat,c - 1=((j : Nat) : Int) :=⟨(c - 1).toNat,by omega⟩
 refine st (bs ((j : Nat) : Int))<|go h fun w h=>?_
 obtain ⟨b7,rfl⟩:=h.fp a2 (by omega)
 refine go h fun w h=>?_
 refine qc h (fun hd8 w h=>?_) fun hd8 w h=>?_
 have hg9:=bne_iff_ne.1 hd8
 refine go h fun w h=>?_
 refine rz ?_
 rw [cas_ne hj (by omega) (by omega)]; exact ⟨rfl,(SH.mi ⟨_,_,_,_,_⟩ hzs (h))⟩
 have hg10:=eq_of_bneF hd8
 refine go h fun w h=>?_
 refine st (bs ((j : Nat) : Int))<|go h fun w h=>?_
 refine sf (soi h Sz.h rfl rfl (by omega) u2) ?_
 rintro _ w h
 refine go h fun w h=>?_
 refine rz ?_
 rw [cas_yes hj (by omega) (by omega)]; exact ⟨rfl,SH.mi ⟨pn,cn,some ⟨b7,0,none⟩,cc,zs⟩ hzs (by unfold memL; dsimp only; rw [List.length_set]; exact h)⟩
theorem node_any (mb : Nat) (s : Ct.St) (r : Int) (h : SH B w (memA mb s::L)) (hr : s.size≤100000000000) :
  Calls Tryz.prog 256 #[.pointer (some ⟨mb,0,none⟩),.int .i64 r] w fun e w'=>∃ q,e=.returned (.agg (nodeC (s.node r) q).toArray)∧SH B w' (nodeR (s.node r) q::memA mb s::L):=by
 obtain ⟨⟨pn,cn,pc,cc,zs⟩,hz0,h⟩:=h.mo
 have h : SH B w (bl mb ([.slice pn zs.length cn,.slice pc s.cells.length cc,.int .i64 ((s.gen : Nat) : Int),.int .i64 ((s.acc : Nat) : Int)]) 64::osl 77 14 (.slice pn zs.length cn) zs.length (zs.flatMap nodeP)::osl 36 1 (.slice pc s.cells.length cc) s.cells.length (s.cells.map (Value.int .i64))::nodesF zs::L):=h
 have hzs : zs.map Prod.fst=nodesOf s:=hz0
 clear hz0
 have hz : zs.length=2+s.added.length:=zs_len hzs
 have hrm : s.added.length+s.cells.length+s.gen+s.acc≤100000000000:=hr
 refine bn0 Tryz.func256 Tryz.ntmps256 h fun w h=>?_
 refine jA h fun b1 w h=>?_
 refine qg h (fun hd2 w h=>?_) fun hd2 w h=>?_
 have hg3:=of_decide_eq_true hd2
 refine go h fun w h=>?_
 refine rr (resC rfl rfl (h.b a0) Row.h) ?_
 rw [node_no s r (by omega)]; exact ⟨{},rfl,SH.nilN _ rfl rfl (SH.mi ⟨_,_,_,_,_⟩ hzs h.drop)⟩
 have hg4:=of_decide_eq_false hd2
 refine go h fun w h=>?_
 refine qc h (fun hd5 w h=>?_) fun hd5 w h=>?_
 have hg6:=of_decide_eq_true hd5
 refine go h fun w h=>?_
 refine rr (resC rfl rfl (h.b a0) Row.h) ?_
 rw [node_no s r (by omega)]; exact ⟨{},rfl,SH.nilN _ rfl rfl (SH.mi ⟨_,_,_,_,_⟩ hzs h.drop)⟩
 have hg7:=of_decide_eq_false hd5
 refine go h fun w h=>?_
 obtain ⟨j,hj⟩ : ∃ j : Nat,r - 1=((j : Nat) : Int) :=⟨(r - 1).toNat,by omega⟩
 refine st (bs ((j : Nat) : Int))<|go h fun w h=>?_
 obtain ⟨b8,rfl⟩:=h.fp a2 (by omega)
 refine go h fun w h=>?_
 refine st (ldr rfl ((h.ro a2).x nodeP_len (by decide) (by omega) ({},{})) Row.h)<|go h fun w h=>?_
 refine rr (resC rfl rfl (h.b a0) Row.h) ?_
 obtain ⟨hm,hn⟩:=node_at hzs hj (by omega)
 have h:=h.getN a4 hm
 rw [← hn]; exact ⟨_,rfl,((SH.mi ⟨_,_,_,_,_⟩ hzs ((h.fr (.c r1 .n)).drop.fr (.c r1 (.c r1 (.c r1 (.c r1 .n)))))).fr (.c r1 .n))⟩
theorem alloc_any (mb : Nat) (s : Ct.St) (n : Ct.Node) (q : Lq) (i : Int) (h : SH B w (nodeR n q::memA mb s::L)) (hr : s.size≤100000000000) (hb : n.branches.length≤1000000) (hp : n.pairs.length≤200000000000) :
  Calls Tryz.prog 82 #[.pointer (some ⟨mb,0,none⟩),.agg (nodeC n q).toArray,.int .i64 i] w fun e w'=>e=.returned (.int .i64 (s.alloc n i).2)∧SH B w' (memA mb (s.alloc n i).1::L):=by
 have h:=h.se
 refine bn0 Tryz.func82 Tryz.ntmps82 h fun w h=>?_
 refine sf (bx h rfl rfl)<|?_
 rintro _ w ⟨b1,rfl,h⟩
 refine st (sg rfl)<|xe<|nx<|sq<|rg<|st (fa fo_77_2 rfl)<|?_
 refine sf (so h rfl rfl rfl sz_33 rfl (.s (.s (.r .d))) u0)<|?_
 rintro _ w h
 refine st (fa fo_77_9 rfl)<|?_
 refine sf (so h rfl rfl rfl sz_33 rfl (.s (.s (.s (.s (.s (.s (.s (.s (.s (.r .d)))))))))) u0)<|?_
 rintro _ w h
 refine st (fa fo_77_13 rfl)<|?_
 refine sf (so h rfl rfl rfl sz_33 rfl (.s (.s (.s (.s (.s (.s (.s (.s (.s (.s (.s (.s (.s (.r .d)))))))))))))) u0)<|?_
 rintro _ w h
 refine xe<|nx<|?_
 refine sm (fun e w=>∃ s1 : Ct.St,∃ c2 : Int,∃ c9 : Int,∃ c13 : Int,Sub 60 e (.c 0 (.pointer (some ⟨mb,0,none⟩)) (.c 4 (.pointer (some ⟨b1,0,none⟩)) .n))∧SH B w (bl b1 ([.int .i64 n.kind,.int .i64 n.gen,.int .i64 c2,.int .u64 ((n.bitmap : Nat) : Int),.slice q.pb n.branches.length q.cb,.int .u64 ((n.hash : Nat) : Int),.string n.key,.int .u64 ((n.value : Nat) : Int),.slice q.pp n.pairs.length q.cp,.int .i64 c9,.int .i64 n.old,.int .i64 n.expected,.int .i64 n.new,.int .i64 c13]) 77::rsl 1 (.slice q.pb n.branches.length q.cb) n.branches.length (n.branches.map (Value.int .i64))::rsl 2 (.slice q.pp n.pairs.length q.cp) n.pairs.length (n.pairs.flatMap pairC)::memA mb s1::L)∧(s.alloc n i=({ s1 with added:=s1.added ++ [{ n.bare with main:=c2,prev:=c9,status:=c13 }] },(s.added.length : Int)+3))∧(s1.added=s.added)∧(s1.size≤s.size+1)) ?_ ?_
 rcases Bool.eq_false_or_eq_true ((n.kind : Int)==2) with hd2 | hd2 <;> refine go h fun w h=>?_
 have hg3:=eq_of_beq hd2
 refine go h fun w h=>?_
 refine j000 (newCell_any _ _ _ h.to (by omega)) fun w h=>?_
 exact ⟨((s.newCell i).1),(s.newCell i).2,0,0,⟨rfl,rfl,trivial⟩,h.to,alloc_2 s n i (eq_of_beq hd2),rfl,(by simp only [Ct.St.newCell,Ct.St.size,List.length_append,List.length_singleton]; omega)⟩
 have hg4:=ne_of_beq_false hd2
 refine go h fun w h=>?_
 refine qc h (fun hd5 w h=>?_) fun hd5 w h=>?_
 have hg6:=eq_of_beq hd5
 refine go h fun w h=>?_
 refine j000 (newCell_any _ _ _ h.to (by omega)) fun w h=>?_
 exact ⟨((s.newCell i).1),0,(s.newCell i).2,0,⟨rfl,rfl,trivial⟩,h.to,alloc_m s n i (by have:=eq_of_beq hd5; omega),rfl,(by simp only [Ct.St.newCell,Ct.St.size,List.length_append,List.length_singleton]; omega)⟩
 have hg7:=ne_of_beq_false hd5
 refine go h fun w h=>?_
 refine qc h (fun hd8 w h=>?_) fun hd8 w h=>?_
 have hg9:=eq_of_beq hd8
 refine go h fun w h=>?_
 refine j000 (newCell_any _ _ _ h.to (by omega)) fun w h=>?_
 exact ⟨((s.newCell i).1),0,(s.newCell i).2,0,⟨rfl,rfl,trivial⟩,h.to,alloc_m s n i (by have:=eq_of_beq hd8; omega),rfl,(by simp only [Ct.St.newCell,Ct.St.size,List.length_append,List.length_singleton]; omega)⟩
 have hg10:=ne_of_beq_false hd8
 refine go h fun w h=>?_
 refine qc h (fun hd11 w h=>?_) fun hd11 w h=>?_
 have hg12:=eq_of_beq hd11
 refine go h fun w h=>?_
 refine j000 (newCell_any _ _ _ h.to (by omega)) fun w h=>?_
 exact ⟨((s.newCell i).1),0,(s.newCell i).2,0,⟨rfl,rfl,trivial⟩,h.to,alloc_m s n i (by have:=eq_of_beq hd11; omega),rfl,(by simp only [Ct.St.newCell,Ct.St.size,List.length_append,List.length_singleton]; omega)⟩
 have hg13:=ne_of_beq_false hd11
 refine go h fun w h=>?_
 refine qc h (fun hd14 w h=>?_) fun hd14 w h=>?_
 have hg15:=eq_of_beq hd14
 refine go h fun w h=>?_
 refine j000 (newCell_any _ _ _ h.to (by omega)) fun w h=>?_
 exact ⟨((s.newCell i).1),0,0,(s.newCell i).2,⟨rfl,rfl,trivial⟩,h.to,alloc_8 s n i (eq_of_beq hd14),rfl,(by simp only [Ct.St.newCell,Ct.St.size,List.length_append,List.length_singleton]; omega)⟩
 have hg16:=ne_of_beq_false hd14
 refine go h fun w h=>?_
 exact ⟨s,0,0,0,⟨rfl,rfl,trivial⟩,h,alloc_0 s n i (by have h0:=ne_of_beq_false hd2; have h1:=ne_of_beq_false hd5; have h2:=ne_of_beq_false hd8; have h3:=ne_of_beq_false hd11; have h4:=ne_of_beq_false hd14; omega),rfl,(by omega)⟩
 rintro e w ⟨s1,c2,c9,c13,hE,h,ha,hs1,hr1⟩
 refine C.sub hE ?_
 clear hE e
 refine go h fun w h=>?_
 refine sf (bu [] h Slc.h Ss.h rfl (by kernel_rfl) rfl (by decide) (by decide)) ?_
 rintro _ w ⟨b17,rfl,h⟩
 refine go h fun w h=>?_
 refine sf (apr h a2 a0 Slc.h rfl Ss.h rfl (by decide) rfl rfl (fun _=>u0) (ones_ints _) (Nat.zero_add _) (List.nil_append _) (by unfold maxLen; omega) (by omega)) ?_
 rintro _ w ⟨p18,c19,rfl,h⟩
 refine go h fun w h=>?_
 refine sf (bu [] h Slc.h Ss.h rfl (by kernel_rfl) rfl (by decide) (by decide)) ?_
 rintro _ w ⟨b20,rfl,h⟩
 refine go h fun w h=>?_
 refine sf (apr h a4 a0 Slc.h rfl Ss.h rfl (by decide) rfl rfl (fun _=>u0) (ones_rows pairC_one _) (Nat.zero_add _) (List.nil_append _) (by unfold maxLen; omega) (by omega)) ?_
 rintro _ w ⟨p21,c22,rfl,h⟩
 refine go h fun w h=>?_
 have hrm : s1.added.length+s1.cells.length+s1.gen+s1.acc≤100000000001:=Nat.le_trans hr1 (by omega)
 have h:=h.fr (.c r5 .n)
 obtain ⟨⟨pn,cn,pc,cc,zs⟩,hz0,h⟩:=h.mo
 have h : SH B w (bl mb ([.slice pn zs.length cn,.slice pc s1.cells.length cc,.int .i64 ((s1.gen : Nat) : Int),.int .i64 ((s1.acc : Nat) : Int)]) 64::osl 77 14 (.slice pn zs.length cn) zs.length (zs.flatMap nodeP)::osl 36 1 (.slice pc s1.cells.length cc) s1.cells.length (s1.cells.map (Value.int .i64))::nodesF zs::osl 132 2 (.slice p21 n.pairs.length c22) n.pairs.length (n.pairs.flatMap pairC)::osl 36 1 (.slice p18 n.branches.length c19) n.branches.length (n.branches.map (Value.int .i64))::bl b1 ([.int .i64 n.kind,.int .i64 n.gen,.int .i64 c2,.int .u64 ((n.bitmap : Nat) : Int),.slice p18 n.branches.length c19,.int .u64 ((n.hash : Nat) : Int),.string n.key,.int .u64 ((n.value : Nat) : Int),.slice p21 n.pairs.length c22,.int .i64 c9,.int .i64 n.old,.int .i64 n.expected,.int .i64 n.new,.int .i64 c13]) 77::rsl 1 (.slice q.pb n.branches.length q.cb) n.branches.length (n.branches.map (Value.int .i64))::rsl 2 (.slice q.pp n.pairs.length q.cp) n.pairs.length (n.pairs.flatMap pairC)::L):=h
 have hzs : zs.map Prod.fst=nodesOf s1:=hz0
 clear hz0
 have hz : zs.length=2+s1.added.length:=zs_len hzs
 refine drZ (F:=[bl mb ([.slice pn zs.length cn,.slice pc s1.cells.length cc,.int .i64 ((s1.gen : Nat) : Int),.int .i64 ((s1.acc : Nat) : Int)]) 64,bl b1 ([.int .i64 n.kind,.int .i64 n.gen,.int .i64 c2,.int .u64 ((n.bitmap : Nat) : Int),.slice p18 n.branches.length c19,.int .u64 ((n.hash : Nat) : Int),.string n.key,.int .u64 ((n.value : Nat) : Int),.slice p21 n.pairs.length c22,.int .i64 c9,.int .i64 n.old,.int .i64 n.expected,.int .i64 n.new,.int .i64 c13]) 77]) [1,3,5,7,9,11,13,14,16,18,20,23] 12 (by kernel_rfl) h (fun w h=>(hC (h.at_ a0) (hC (h.at_ a6) hN))) fun w h=>go h fun w h=>?_
 refine ff (bu [.int .i64 n.kind,.int .i64 n.gen,.int .i64 c2,.int .u64 ((n.bitmap : Nat) : Int),.slice p18 n.branches.length c19,.int .u64 ((n.hash : Nat) : Int),.string n.key,.int .u64 ((n.value : Nat) : Int),.slice p21 n.pairs.length c22,.int .i64 c9,.int .i64 n.old,.int .i64 n.expected,.int .i64 n.new,.int .i64 c13] h Slc.h Ss.h rfl (by kernel_rfl) rfl (by decide) (by decide)) ?_
 rintro _ w ⟨b23,rfl,h⟩
 refine gz h fun w h=>?_
 refine ff (ap h sl_59 rfl ss_77 rfl (by decide) rfl rfl (fun _=>u2) (h.ro a0) (by simp [Value.oneCell']) rfl (join_rows (enc:=nodeP) _ ({ n.bare with main:=c2,prev:=c9,status:=c13 },⟨p18,c19,p21,c22⟩)) (by unfold maxLen; omega) (by omega))<|?_
 rintro _ w ⟨p24,c25,rfl,h⟩
 refine ⟨(hC (h.at_ a1) (hC (h.at_ a7) hN)),?_⟩
 refine go h fun w h=>?_
 refine ef (nc rfl rfl) ((hC (h.at_ a1) (hC (h.at_ a7) hN)))<|ef (fa Fo.h rfl) ((hC (h.at_ a1) (hC (h.at_ a7) hN)))<|go h fun w h=>?_
 refine xzZ<|go h fun w h=>?_
 refine rz ?_
 rw [ha]
 have h:=(((h.fr (.c r0 (.c r6 (.c r6 (.c r6 .n))))).drop.drop.drop.drop.fr (.c r5 (.c r4 (.c r3 (.c r0 (.c r0 (.c r0 .n)))))))).fz.fr (.c r1 .n)
 have h:=h.fz.fr (.c r1 .n)
 have h:=SH.addN (n:={ n.bare with main:=c2,prev:=c9,status:=c13 }) (q :=⟨p18,c19,p21,c22⟩) h
 refine ⟨?_,SH.mi ⟨p24,c25,pc,cc,zs ++ [({ n.bare with main:=c2,prev:=c9,status:=c13 },⟨p18,c19,p21,c22⟩)]⟩ ?_ ?_⟩
 rw [hz,hs1]; congr 2; omega
 rw [List.map_append,hzs]; rfl
 unfold memL; dsimp only; rw [List.length_append,List.length_singleton]; exact h.fr (.c r1 (.c r1 (.c r1 (.c r0 .n))))
end Go.Proofs.YtmliojdkmfhmmaaGreat
end
section
namespace Go.Proofs.YtmliojdkmfhmmaaGreat
open Go.E
theorem fo_115_0 : fo Tryz.prog 115 0=some 0:=by kernel_rfl
theorem fo_115_10 : fo Tryz.prog 115 10=some 34:=by kernel_rfl
theorem fo_115_11 : fo Tryz.prog 115 11=some 35:=by kernel_rfl
theorem fo_115_3 : fo Tryz.prog 115 3=some 27:=by kernel_rfl
theorem fo_115_4 : fo Tryz.prog 115 4=some 28:=by kernel_rfl
theorem fo_115_5 : fo Tryz.prog 115 5=some 29:=by kernel_rfl
theorem fo_115_6 : fo Tryz.prog 115 6=some 30:=by kernel_rfl
theorem fo_115_7 : fo Tryz.prog 115 7=some 31:=by kernel_rfl
theorem fo_115_8 : fo Tryz.prog 115 8=some 32:=by kernel_rfl
theorem fo_115_9 : fo Tryz.prog 115 9=some 33:=by kernel_rfl
theorem one_113 : oneC Tryz.prog 113 = true:=by kernel_rfl
theorem one_22 : oneC Tryz.prog 22 = true:=by kernel_rfl
theorem one_27 : oneC Tryz.prog 27 = true:=by kernel_rfl
theorem one_33 : oneC Tryz.prog 33 = true:=by kernel_rfl
theorem one_4 : oneC Tryz.prog 4 = true:=by kernel_rfl
theorem sl_113 : Tryz.prog.underlying 113 = some (.slice 33):=by kernel_rfl
theorem sl_22 : Tryz.prog.underlying 22 = some (.slice 3):=by kernel_rfl
theorem ss_3 : sizes Tryz.prog 3 = some (.int .i64 0,1,8):=by kernel_rfl
theorem ss_33 : sizes Tryz.prog 33 = some (.int .i64 0,1,8):=by kernel_rfl
theorem sz_113 : (Tryz.prog.info? 113).map (·.size)=some 1:=by kernel_rfl
theorem sz_22 : (Tryz.prog.info? 22).map (·.size)=some 1:=by kernel_rfl
theorem sz_4 : (Tryz.prog.info? 4).map (·.size)=some 1:=by kernel_rfl
theorem en_216 : Ents Tryz.prog 216:=enG Tryz.func216 rfl rfl
theorem en_212 : Ents Tryz.prog 212:=enG Tryz.func212 rfl rfl
end Go.Proofs.YtmliojdkmfhmmaaGreat
end
