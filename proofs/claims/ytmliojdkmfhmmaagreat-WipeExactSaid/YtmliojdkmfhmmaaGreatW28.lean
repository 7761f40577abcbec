/- Parts of a proof: Vw. -/
import Derived.Test.YtmliojdkmfhmmaaGreatW09
import Derived.Test.YtmliojdkmfhmmaaGreatW27
import Derived.Test.YtmliojdkmfhmmaaGreatW17
import Derived.Test.YtmliojdkmfhmmaaGreatW04
set_option linter.unusedVariables false
set_option linter.unusedSimpArgs false
set_option maxRecDepth 100000
set_option maxHeartbeats 4000000
section
namespace Go.Proofs.YtmliojdkmfhmmaaGreat
attribute [local irreducible] Go.E.wpL Go.E.wpS Go.E.X Go.E.XS Go.E.C Go.E.thn Go.E.blk Go.E.fin Go.E.Y Go.E.U Go.E.F Go.E.Ca Go.E.Res Go.E.bl Go.E.rb Go.E.osl Go.E.rsl Go.E.ex Go.E.ce Go.E.pu Go.E.sK Go.E.gK Go.E.bK Go.E.zK Go.E.boxA Go.E.cloA Go.E.codeA clA cdA
open Go.RowKit Go.E
theorem cp_of {s : Ct.St} {n : Ct.Node} (hp : Ct.Proper s) (hm : n ∈ nodesOf s) (hc : n.hasCell=true) : n.cellOf=n.cellP:=by
 unfold nodesOf at hm
 rcases List.mem_cons.1 hm with rfl | hm
 ·rw [Ct.mark_no] at hc; cases hc
 ·rcases List.mem_cons.1 hm with rfl | hm
  ·rw [Ct.mark_no] at hc; cases hc
  ·exact (hp.cellP hm hc).symm
theorem valid_ge {n : Ct.Node} (h : n.valid=true) : 0≤n.main∧0≤n.prev∧0≤n.status:=by
 have:=Ct.valid_vf h; exact ⟨this.main,this.prev,this.status⟩
theorem rep_false (m j : Nat) : (List.replicate m false).getD j false=false:=by
 rw [List.getD_eq_getElem?_getD,List.getElem?_replicate]; split <;> rfl
theorem flat_join {s : Ct.St} {m : Int} {k : Nat} (hk : k<(s.node m).branches.length) : ((Ct.flatPairs s m).take k).flatMap pairC ++ [.string (s.node ((s.node m).branches.getD k 0)).key,.int .u64 (((s.node ((s.node m).branches.getD k 0)).value : Nat) : Int)]=((Ct.flatPairs s m).take (k+1)).flatMap pairC:=by
 have hl : k<(Ct.flatPairs s m).length:=by unfold Ct.flatPairs; rw [List.length_map]; exact hk
 rw [← take_snoc (d :=⟨.empty,0⟩) hl,List.flatMap_append]
 have e : (Ct.flatPairs s m).getD k ⟨.empty,0⟩=⟨(s.node ((s.node m).branches.getD k 0)).key,(s.node ((s.node m).branches.getD k 0)).value⟩:=by
  unfold Ct.flatPairs
  rw [List.getD_eq_getElem?_getD,List.getElem?_map,List.getElem?_eq_getElem hk,List.getD_eq_getElem?_getD,List.getElem?_eq_getElem hk]; rfl
 rw [e]; rfl
theorem cell_le {s : Ct.St} {n : Ct.Node} (hp : Ct.Proper s) (hm : n ∈ nodesOf s) (h0 : 0≤n.main∧0≤n.prev∧0≤n.status) (hc : n.hasCell=true) (hr : s.added.length+s.cells.length+s.gen+s.acc≤100000000000) : n.main+n.prev+n.status≤1000000000000:=by
 have h1:=(hp.all n hm).lo hc
 have h2:=cp_of hp hm hc
 unfold Ct.Node.cellOf at h2
 omega
variable {B w : World} {L : List As}
theorem rknown_o (n : Nat) (l : List Int) (p : Option Addr) (c : Nat) (h : SH B w (osl 36 1 (.slice p l.length c) l.length (l.map (Value.int .i64))::L)) (hr : ∀ r ∈ l,0≤r∧r≤((n : Nat) : Int)) (hl : l.length≤1000000000000) :
  Calls Tryz.prog 125 #[.int .i64 ((n : Nat) : Int),.slice p l.length c] w fun e w'=>e=.returned (.bool true)∧SH B w' (osl 36 1 (.slice p l.length c) l.length (l.map (Value.int .i64))::L):=by
 refine bn0 Tryz.func125 Tryz.ntmps125 h fun w h=>?_
 refine lp (α:=Nat) (fun ρ=>(.c 0 (.int .i64 ((n : Nat) : Int)) (.c 1 (.slice p l.length c) (.c 5 (.int .i64 ((ρ : Nat) : Int)) .n)))) (fun ρ w=>SH B w (osl 36 1 (.slice p l.length c) l.length (l.map (Value.int .i64))::L)∧(ρ≤l.length)) (fun ρ=>l.length - ρ) 0 ⟨rfl,rfl,rfl,trivial⟩ ⟨h,Nat.zero_le _⟩ ?_
 rintro k w ⟨h,hk⟩
 refine go h fun w h=>?_
 refine qc h (fun hd1 w h=>?_) fun hd1 w h=>?_
 have hg2:=of_decide_eq_true hd1
 refine go h fun w h=>?_
 obtain ⟨b3,rfl⟩:=h.fp a0 (by omega)
 refine go h fun w h=>?_
 refine gT rfl rfl (decide_eq_false (by have:=hr _ (mem_getD (i:=k) (l:=l) (d:=0) (by omega)); omega))<|go h fun w h=>?_
 refine gT rfl rfl (decide_eq_false (by have:=hr _ (mem_getD (i:=k) (l:=l) (d:=0) (by omega)); omega))<|go h fun w h=>?_
 refine gT rfl rfl (decide_eq_false (by have:=hr _ (mem_getD (i:=k) (l:=l) (d:=0) (by omega)); omega))<|go h fun w h=>?_
 refine gT rfl rfl (decide_eq_false (by have:=hr _ (mem_getD (i:=k) (l:=l) (d:=0) (by omega)); omega))<|go h fun w h=>?_
 refine gT rfl rfl (decide_eq_false (by have:=hr _ (mem_getD (i:=k) (l:=l) (d:=0) (by omega)); omega))<|go h fun w h=>?_
 refine gT rfl rfl (decide_eq_false (by have:=hr _ (mem_getD (i:=k) (l:=l) (d:=0) (by omega)); omega))<|go h fun w h=>?_
 refine st (pF rfl (decide_eq_false (by have:=hr _ (mem_getD (i:=k) (l:=l) (d:=0) (by omega)); omega)) rfl)<|go h fun w h=>?_
 refine cf rfl (decide_eq_false (by have:=hr _ (mem_getD (i:=k) (l:=l) (d:=0) (by omega)); omega))<|go h fun w h=>?_
 exact ⟨(k+1),⟨rfl,rfl,rfl,trivial⟩,⟨h,by (try dsimp only); omega⟩,by (try dsimp only); omega⟩
 have hg4:=of_decide_eq_false hd1
 refine go h fun w h=>?_
 exact rz ⟨rfl,h⟩
theorem rknown_r (n : Nat) (l : List Int) (p : Option Addr) (c : Nat) (h : SH B w (rsl 1 (.slice p l.length c) l.length (l.map (Value.int .i64))::L)) (hr : ∀ r ∈ l,0≤r∧r≤((n : Nat) : Int)) (hl : l.length≤1000000000000) :
  Calls Tryz.prog 125 #[.int .i64 ((n : Nat) : Int),.slice p l.length c] w fun e w'=>e=.returned (.bool true)∧SH B w' (rsl 1 (.slice p l.length c) l.length (l.map (Value.int .i64))::L):=by
 refine bn0 Tryz.func125 Tryz.ntmps125 h fun w h=>?_
 refine lp (α:=Nat) (fun ρ=>(.c 0 (.int .i64 ((n : Nat) : Int)) (.c 1 (.slice p l.length c) (.c 5 (.int .i64 ((ρ : Nat) : Int)) .n)))) (fun ρ w=>SH B w (rsl 1 (.slice p l.length c) l.length (l.map (Value.int .i64))::L)∧(ρ≤l.length)) (fun ρ=>l.length - ρ) 0 ⟨rfl,rfl,rfl,trivial⟩ ⟨h,Nat.zero_le _⟩ ?_
 rintro k w ⟨h,hk⟩
 refine go h fun w h=>?_
 refine qc h (fun hd1 w h=>?_) fun hd1 w h=>?_
 have hg2:=of_decide_eq_true hd1
 refine go h fun w h=>?_
 obtain ⟨b3,o4,rfl⟩:=h.fq a0 (by omega)
 refine go h fun w h=>?_
 refine gT rfl rfl (decide_eq_false (by have:=hr _ (mem_getD (i:=k) (l:=l) (d:=0) (by omega)); omega))<|go h fun w h=>?_
 refine gT rfl rfl (decide_eq_false (by have:=hr _ (mem_getD (i:=k) (l:=l) (d:=0) (by omega)); omega))<|go h fun w h=>?_
 refine gT rfl rfl (decide_eq_false (by have:=hr _ (mem_getD (i:=k) (l:=l) (d:=0) (by omega)); omega))<|go h fun w h=>?_
 refine gT rfl rfl (decide_eq_false (by have:=hr _ (mem_getD (i:=k) (l:=l) (d:=0) (by omega)); omega))<|go h fun w h=>?_
 refine gT rfl rfl (decide_eq_false (by have:=hr _ (mem_getD (i:=k) (l:=l) (d:=0) (by omega)); omega))<|go h fun w h=>?_
 refine gT rfl rfl (decide_eq_false (by have:=hr _ (mem_getD (i:=k) (l:=l) (d:=0) (by omega)); omega))<|go h fun w h=>?_
 refine st (pF rfl (decide_eq_false (by have:=hr _ (mem_getD (i:=k) (l:=l) (d:=0) (by omega)); omega)) rfl)<|go h fun w h=>?_
 refine cf rfl (decide_eq_false (by have:=hr _ (mem_getD (i:=k) (l:=l) (d:=0) (by omega)); omega))<|go h fun w h=>?_
 exact ⟨(k+1),⟨rfl,rfl,rfl,trivial⟩,⟨h,by (try dsimp only); omega⟩,by (try dsimp only); omega⟩
 have hg5:=of_decide_eq_false hd1
 refine go h fun w h=>?_
 exact rz ⟨rfl,h⟩
theorem rknown_v (n : Nat) (a b c : Int) (p : Option Addr) (h : SH B w (osl 36 1 (.slice p 3 3) 3 [.int .i64 a,.int .i64 b,.int .i64 c]::L)) (ha : 0≤a∧a≤((n : Nat) : Int)) (hb : 0≤b∧b≤((n : Nat) : Int)) (hc : 0≤c∧c≤((n : Nat) : Int)) :
  Calls Tryz.prog 125 #[.int .i64 ((n : Nat) : Int),.slice p 3 3] w fun e w'=>e=.returned (.bool true)∧SH B w' (osl 36 1 (.slice p 3 3) 3 [.int .i64 a,.int .i64 b,.int .i64 c]::L) :=
 rknown_o n [a,b,c] p 3 h (fun r m=>by simp at m; rcases m with rfl | rfl | rfl <;> assumption) (by simp)
theorem rhas05_any (k : Int) (h : SH B w (L)) :
  Calls Tryz.prog 127 #[.int .i64 k] w fun e w'=>e=.returned (.bool (Ct.hasK k))∧SH B w' L:=by
 refine bn0 Tryz.func127 Tryz.ntmps127 h fun w h=>?_
 refine qg h (fun hd1 w h=>?_) fun hd1 w h=>?_
 have hg2:=eq_of_beq hd1
 refine go h fun w h=>?_
 refine rz ?_
 refine ⟨?_,h⟩
 unfold Ct.hasK; rw [hd1]; rfl
 have hg3:=ne_of_beq_false hd1
 refine go h fun w h=>?_
 refine qg h (fun hd4 w h=>?_) fun hd4 w h=>?_
 have hg5:=eq_of_beq hd4
 refine go h fun w h=>?_
 refine rz ?_
 refine ⟨?_,h⟩
 unfold Ct.hasK; rw [hd1,hd4]; rfl
 have hg6:=ne_of_beq_false hd4
 refine go h fun w h=>?_
 refine qg h (fun hd7 w h=>?_) fun hd7 w h=>?_
 have hg8:=eq_of_beq hd7
 refine go h fun w h=>?_
 refine rz ?_
 refine ⟨?_,h⟩
 unfold Ct.hasK; rw [hd1,hd4,hd7]; rfl
 have hg9:=ne_of_beq_false hd7
 refine go h fun w h=>?_
 refine qg h (fun hd10 w h=>?_) fun hd10 w h=>?_
 have hg11:=eq_of_beq hd10
 refine go h fun w h=>?_
 refine rz ?_
 refine ⟨?_,h⟩
 unfold Ct.hasK; rw [hd1,hd4,hd7,hd10]; rfl
 have hg12:=ne_of_beq_false hd10
 refine go h fun w h=>?_
 refine rz ?_
 refine ⟨?_,h⟩
 unfold Ct.hasK; rw [hd1,hd4,hd7,hd10]; rfl
theorem rcell05_any (n : Ct.Node) (q : Lq) (h : SH B w (L)) (h0 : 0≤n.main∧0≤n.prev∧0≤n.status) (h1 : n.main+n.prev+n.status≤1000000000000) :
  Calls Tryz.prog 128 #[.agg (nodeC n q).toArray] w fun e w'=>e=.returned (.int .i64 n.cellOf)∧SH B w' L:=by
 refine bn0 Tryz.func128 Tryz.ntmps128 h fun w h=>?_
 refine jX h fun b1 w h=>?_
 refine st (ba (n.main+n.prev))<|go h fun w h=>?_
 refine st (ba (n.main+n.prev+n.status))<|go h fun w h=>?_
 exact rz ⟨rfl,h.drop⟩
theorem rvalid_at (n : Ct.Node) (q : Lq) (h : SH B w (nodeR n q::L)) (hv : n.valid=true) (hb : n.branches.length≤1000000) (hp : n.pairs.length≤1000000000000) (hm : n.bitmap<18446744073709551616) :
  Calls Tryz.prog 126 #[.agg (nodeC n q).toArray] w fun e w'=>e=.returned (.bool true)∧SH B w' (nodeR n q::L):=rvalid_any n q.pb q.cb q.pp q.cp h hv hb hp hm
theorem rhas05_n (n : Ct.Node) (h : SH B w L) : Calls Tryz.prog 127 #[.int .i64 n.kind] w fun e w'=>e=.returned (.bool n.hasCell)∧SH B w' L:=by
 rw [← Ct.hasK_eq]; exact rhas05_any n.kind h
section
attribute [local semireducible] Go.E.wpL Go.E.wpS Go.E.X Go.E.XS Go.E.C Go.E.thn Go.E.blk Go.E.fin Go.E.Y Go.E.U Go.E.F Go.E.Ca Go.E.Res Go.E.bl Go.E.rb Go.E.osl Go.E.rsl Go.E.ex Go.E.ce Go.E.pu Go.E.sK Go.E.gK Go.E.bK Go.E.zK Go.E.boxA Go.E.cloA Go.E.codeA clA cdA
attribute [local irreducible] Go.E.wpL Go.E.wpS
variable {B w : World} {L : List As}
theorem rproper_any (s : Ct.St) (zs : List (Ct.Node × Lq)) (pn pc : Option Addr) (cn cc : Nat) (h : SH B w (osl 77 14 (.slice pn zs.length cn) zs.length (zs.flatMap nodeP)::osl 36 1 (.slice pc s.cells.length cc) s.cells.length (s.cells.map (Value.int .i64))::nodesF zs::L)) (hzs : zs.map Prod.fst=nodesOf s) (hp : Ct.Proper s) (hf : ∀ n ∈ nodesOf s,n.branches.length≤1000000∧n.pairs.length≤200000000000∧n.bitmap<18446744073709551616) (hr : s.size≤100000000000) :
  Calls Tryz.prog 74 #[.agg [.slice pn zs.length cn,.slice pc s.cells.length cc,.int .i64 ((s.gen : Nat) : Int)].toArray] w fun e w'=>e=.returned (.bool true)∧SH B w' (osl 77 14 (.slice pn zs.length cn) zs.length (zs.flatMap nodeP)::osl 36 1 (.slice pc s.cells.length cc) s.cells.length (s.cells.map (Value.int .i64))::nodesF zs::L):=by
 have hz2:=zs_len hzs
 have hrm : s.added.length+s.cells.length+s.gen+s.acc≤100000000000:=hr
 have hsort : ((nodesOf s).filter Ct.Node.hasCell).Pairwise _:=hp.sorted
 obtain ⟨hk0,hk1⟩:=marks_at hzs
 refine bgn (args:=[_]) Tryz.func74 rfl Tryz.ntmps74 rfl ?_
 refine sq<|rg<|sf (bx h rfl rfl)<|?_
 rintro _ w ⟨b1,rfl,h⟩
 refine st (sg rfl)<|xe<|nx<|sq<|rg<|st (fa fo_62_0 rfl)<|st (ld one_59 rfl (h.c a0 rfl))<|st (ln sl_59 rfl rfl)<|st (sg rfl)<|xe<|nx<|sq<|sq<|rg<|st (mv rfl)<|st (bi rfl rfl rfl)<|st (mv rfl)<|gT rfl rfl (decide_eq_false (by omega))<|st (fa fo_62_0 rfl)<|gT rfl rfl (decide_eq_false (by omega))<|st (ld one_59 rfl (h.c a0 rfl))<|gT rfl rfl (decide_eq_false (by omega))<|?_
 obtain ⟨b2,rfl⟩:=h.fp a1 (by omega)
 refine st (ix (j:=0) sl_59 sz_77 rfl rfl (by omega))<|gT rfl rfl (decide_eq_false (by omega))<|st (fa fo_77_0 rfl)<|gT rfl rfl (decide_eq_false (by omega))<|st (ld one_3 rfl ((h.ro a1).x nodeP_len (by decide) (j:=0) (by omega) ({},{}) 0 _ rfl))<|gT rfl rfl (decide_eq_false (by omega))<|st (bi rfl rfl rfl)<|st (pF rfl (decide_eq_false (by omega)) rfl)<|st (mv rfl)<|gT rfl rfl (bneF (by omega))<|st (fa fo_62_0 rfl)<|gT rfl rfl (bneF (by omega))<|st (ld one_59 rfl (h.c a0 rfl))<|gT rfl rfl (bneF (by omega))<|st (ix (j:=1) sl_59 sz_77 rfl rfl (by omega))<|gT rfl rfl (bneF (by omega))<|st (fa fo_77_0 rfl)<|gT rfl rfl (bneF (by omega))<|st (ld one_3 rfl ((h.ro a1).x nodeP_len (by decide) (j:=1) (by omega) ({},{}) 0 _ rfl))<|gT rfl rfl (bneF (by omega))<|st (bi rfl rfl rfl)<|st (pF rfl (bneF (by omega)) rfl)<|st (mv rfl)<|gT rfl rfl (bneF (by omega))<|st (fa fo_62_2 rfl)<|gT rfl rfl (bneF (by omega))<|st (ld one_3 rfl (h.c a0 rfl))<|gT rfl rfl (bneF (by omega))<|st (bi rfl rfl rfl)<|st (pF rfl (bneF (by omega)) rfl)<|st (mv rfl)<|gT rfl rfl (decide_eq_false (by omega))<|st (mv rfl)<|gT rfl rfl (decide_eq_false (by omega))<|st (fa fo_62_1 rfl)<|gT rfl rfl (decide_eq_false (by omega))<|st (ld one_60 rfl (h.c a0 rfl))<|gT rfl rfl (decide_eq_false (by omega))<|cl (ca en_125 rfl) ((rknown_o zs.length s.cells _ _ (h.fr (.c r2 .n)) (by rw [hz2]; exact hp.cells) (by omega)).mono ?_)
 rintro _ w ⟨rfl,h⟩
 refine ⟨_,rfl,?_⟩
 refine gT rfl rfl (decide_eq_false (by omega))<|st (nt rfl)<|st (pF rfl (decide_eq_false (by omega)) rfl)<|xe<|nx<|cF rfl<|sk<|nx<|sq<|rg<|st (fa fo_62_1 rfl)<|st (ld one_60 rfl (h.c a1 rfl))<|st (ln sl_60 rfl rfl)<|sf (mk h sl_173 ss_4 rfl rfl (by omega) (by unfold maxLen; omega))<|?_
 rintro _ w ⟨b3,rfl,h⟩
 rw [madeRows b1C_len (by decide) (d:=false) rfl] at h
 refine st (sg rfl)<|xe<|nx<|sq<|sq<|rg<|st (sg rfl)<|xe<|nx<|bk<|?_
 refine lp (α:=Nat × List Bool) (fun ρ=>(.c 1 (.pointer (some ⟨b1,0,none⟩)) (.c 3 (.int .i64 ((zs.length : Nat) : Int)) (.c 4 (.slice (some ⟨b3,0,none⟩) s.cells.length s.cells.length) (.c 5 (.int .i64 ((ρ.1 : Nat) : Int)) .n))))) (fun ρ w=>SH B w (osl 4 1 (.slice (some ⟨b3,0,none⟩) s.cells.length s.cells.length) s.cells.length (ρ.2.flatMap b1C)::osl 36 1 (.slice pc s.cells.length cc) s.cells.length (s.cells.map (Value.int .i64))::bl b1 ([.slice (some ⟨b2,0,none⟩) zs.length cn,.slice pc s.cells.length cc,.int .i64 ((s.gen : Nat) : Int)]) 62::osl 77 14 (.slice (some ⟨b2,0,none⟩) zs.length cn) zs.length (zs.flatMap nodeP)::nodesF zs::L)∧(Ct.Named (nodesOf s) ρ.1 ρ.2)∧(ρ.2.length=s.cells.length)∧(ρ.1≤zs.length)) (fun ρ=>zs.length - ρ.1) (0,List.replicate s.cells.length false) ⟨rfl,rfl,rfl,rfl,trivial⟩ ⟨h,(Ct.named_zero _ _),(List.length_replicate ..),(Nat.zero_le _)⟩ ?_
 rintro ⟨k,bs⟩ w ⟨h,hN,hbs,hk⟩
 dsimp only at *
 refine sq<|sq<|rg<|st (mv rfl)<|st (mv rfl)<|st (bi rfl rfl rfl)<|xe<|nx<|?_
 rcases Bool.eq_false_or_eq_true (decide ((((k : Nat) : Int) : Int)<((zs.length : Nat) : Int))) with hd4 | hd4
 ·have hg5:=of_decide_eq_true hd4
  refine ct rfl hd4<|sk<|nx<|sq<|bk<|sq<|rg<|st (fa fo_62_0 rfl)<|st (ld one_59 rfl (h.c a2 rfl))<|st (mv rfl)<|st (ix (j:=k) sl_59 sz_77 rfl rfl (by omega))<|st (ldr rfl ((h.ro a3).x nodeP_len (by decide) (by omega) ({},{})) row_77)<|sf (al h zc_77)<|?_
  rintro _ w ⟨b6,rfl,h⟩
  refine sf (so h rfl rfl rfl sz_77 rfl (.r (.r (.r (.r (.r (.r (.r (.r (.r (.r (.r (.r (.r (.r .d)))))))))))))) u0)<|?_
  rintro _ w h
  refine xe<|nx<|sq<|sq<|?_
  obtain ⟨hm,hkn,hnd⟩:=nodes_at hzs (k:=k) (by omega)
  have hpn:=hp.all _ hm.2
  have hfn:=hf _ hm.2
  have hfb:=hfn.1
  have hfp:=hfn.2.1
  have hfm:=hfn.2.2
  have h:=h.getN a5 hm.1
  have hnn:=valid_ge hpn.valid
  have h:=h.duN a0
  have h : SH B w (rsl 1 (.slice (zs.getD k ({},{})).2.pb (zs.getD k ({},{})).1.branches.length (zs.getD k ({},{})).2.cb) (zs.getD k ({},{})).1.branches.length ((zs.getD k ({},{})).1.branches.map (Value.int .i64))::rsl 2 (.slice (zs.getD k ({},{})).2.pp (zs.getD k ({},{})).1.pairs.length (zs.getD k ({},{})).2.cp) (zs.getD k ({},{})).1.pairs.length ((zs.getD k ({},{})).1.pairs.flatMap pairC)::nodeR (zs.getD k ({},{})).1 (zs.getD k ({},{})).2::bl b6 (nodeP (zs.getD k ({},{}))) 77::osl 4 1 (.slice (some ⟨b3,0,none⟩) s.cells.length s.cells.length) s.cells.length (bs.flatMap b1C)::osl 36 1 (.slice pc s.cells.length cc) s.cells.length (s.cells.map (Value.int .i64))::bl b1 ([.slice (some ⟨b2,0,none⟩) zs.length cn,.slice pc s.cells.length cc,.int .i64 ((s.gen : Nat) : Int)]) 62::osl 77 14 (.slice (some ⟨b2,0,none⟩) zs.length cn) zs.length (zs.flatMap nodeP)::nodesF zs::L):=SH.se (l:=[branchR (zs.getD k ({},{})).1 (zs.getD k ({},{})).2,pairR (zs.getD k ({},{})).1 (zs.getD k ({},{})).2]) h
  refine rg<|st (ldr rfl (rows_all (h.b a3)) row_77)<|cl (ca en_126 rfl) ((rvalid_at (zs.getD k ({},{})).1 (zs.getD k ({},{})).2 (h.fr (.c r2 .n)) hpn.valid (by omega) (by omega) (by omega)).mono ?_)
  rintro _ w ⟨rfl,h⟩
  refine ⟨_,rfl,?_⟩
  refine st (nt rfl)<|st (mv rfl)<|gT rfl rfl rfl<|st (fa fo_77_1 rfl)<|gT rfl rfl rfl<|st (ld one_3 rfl (h.c a3 rfl))<|gT rfl rfl rfl<|st (fa fo_62_2 rfl)<|gT rfl rfl rfl<|st (ld one_3 rfl (h.c a6 rfl))<|gT rfl rfl rfl<|st (bi rfl rfl rfl)<|st (pF rfl rfl rfl)<|st (mv rfl)<|gT rfl rfl (decide_eq_false (by have:=hpn.gen; omega))<|st (mv rfl)<|gT rfl rfl (decide_eq_false (by have:=hpn.gen; omega))<|st (fa fo_77_4 rfl)<|gT rfl rfl (decide_eq_false (by have:=hpn.gen; omega))<|st (ld one_60 rfl (h.c a3 rfl))<|gT rfl rfl (decide_eq_false (by have:=hpn.gen; omega))<|cl (ca en_125 rfl) ((rknown_r zs.length (zs.getD k ({},{})).1.branches _ _ (h.fr (.c r1 .n)) (by rw [hz2]; exact hpn.br) (by omega)).mono ?_)
  rintro _ w ⟨rfl,h⟩
  refine ⟨_,rfl,?_⟩
  refine gT rfl rfl (decide_eq_false (by have:=hpn.gen; omega))<|st (nt rfl)<|st (pF rfl (decide_eq_false (by have:=hpn.gen; omega)) rfl)<|st (mv rfl)<|gT rfl rfl rfl<|st (mv rfl)<|gT rfl rfl rfl<|st (fa fo_77_10 rfl)<|gT rfl rfl rfl<|st (ld one_36 rfl (h.c a3 rfl))<|gT rfl rfl rfl<|st (fa fo_77_11 rfl)<|gT rfl rfl rfl<|st (ld one_36 rfl (h.c a3 rfl))<|gT rfl rfl rfl<|st (fa fo_77_12 rfl)<|gT rfl rfl rfl<|st (ld one_36 rfl (h.c a3 rfl))<|gT rfl rfl rfl<|sf (bu [.int .i64 (zs.getD k ({},{})).1.old,.int .i64 (zs.getD k ({},{})).1.expected,.int .i64 (zs.getD k ({},{})).1.new] h sl_60 ss_36 rfl (by kernel_rfl) rfl (by decide) (by decide))<|?_
  rintro _ w ⟨b7,rfl,h⟩
  refine gT rfl rfl rfl<|?_
  refine cl (ca en_125 rfl) ((rknown_v zs.length (zs.getD k ({},{})).1.old (zs.getD k ({},{})).1.expected (zs.getD k ({},{})).1.new (some ⟨b7,0,none⟩) (h.fr (.c r0 .n)) (by have:=hpn.old; have:=hpn.ex; have:=hpn.nw; omega) (by have:=hpn.old; have:=hpn.ex; have:=hpn.nw; omega) (by have:=hpn.old; have:=hpn.ex; have:=hpn.nw; omega)).mono ?_)
  rintro _ w ⟨rfl,h⟩
  refine ⟨_,rfl,?_⟩
  refine gT rfl rfl rfl<|st (nt rfl)<|st (pF rfl rfl rfl)<|xe<|nx<|cF rfl<|sk<|nx<|sq<|sq<|rg<|st (fa fo_77_0 rfl)<|st (ld one_3 rfl (h.c a4 rfl))<|cl (ca en_127 rfl) ((rhas05_n _ (h.fr .n)).mono ?_)
  rintro _ w ⟨rfl,h⟩
  refine ⟨_,rfl,?_⟩
  refine st (nt rfl)<|xe<|nx<|?_
  rcases Bool.eq_false_or_eq_true (!(zs.getD k ({},{})).1.hasCell) with hd8 | hd8
  ·have hd9 : (zs.getD k ({},{})).1.hasCell=false:=(Bool.not_eq_true' _).mp hd8
   refine ct rfl hd8<|xt<|tx<|be<|nx<|rg<|st (mv rfl)<|st (bw rfl rfl (wadd (c:=((k+1 : Nat) : Int)) (by omega) (by omega) (by omega)))<|st (sg rfl)<|xe<|nx<|?_
   exact ⟨(k+1,bs),⟨rfl,rfl,rfl,rfl,trivial⟩,⟨h.drop.drop.drop.drop.drop,(Ct.named_skip hN),by (try dsimp only); omega,by (try dsimp only); omega⟩,by (try dsimp only); omega⟩
  ·have hd10 : (zs.getD k ({},{})).1.hasCell=true:=(Bool.not_eq_false' _).mp hd8
   refine cf rfl hd8<|sk<|nx<|sq<|rg<|st (ldr rfl (rows_all (h.b a4)) row_77)<|cl (ca en_128 rfl) ((rcell05_any (zs.getD k ({},{})).1 (zs.getD k ({},{})).2 (h.fr .n) hnn (cell_le hp hm.2 hnn hd10 hrm)).mono ?_)
   rintro _ w ⟨rfl,h⟩
   refine ⟨_,rfl,?_⟩
   refine st (sg rfl)<|xe<|nx<|sq<|sq<|rg<|st (mv rfl)<|st (bi rfl rfl rfl)<|st (mv rfl)<|gT rfl rfl (decide_eq_false (by have:=hpn.lo hd10; have:=cp_of hp hm.2 hd10; omega))<|st (mv rfl)<|gT rfl rfl (decide_eq_false (by have:=hpn.lo hd10; have:=cp_of hp hm.2 hd10; omega))<|st (fa fo_62_1 rfl)<|gT rfl rfl (decide_eq_false (by have:=hpn.lo hd10; have:=cp_of hp hm.2 hd10; omega))<|st (ld one_60 rfl (h.c a7 rfl))<|gT rfl rfl (decide_eq_false (by have:=hpn.lo hd10; have:=cp_of hp hm.2 hd10; omega))<|st (ln sl_60 rfl rfl)<|gT rfl rfl (decide_eq_false (by have:=hpn.lo hd10; have:=cp_of hp hm.2 hd10; omega))<|st (bi rfl rfl rfl)<|st (pF rfl (decide_eq_false (by have:=hpn.lo hd10; have:=cp_of hp hm.2 hd10; omega)) rfl)<|st (mv rfl)<|gT rfl rfl (decide_eq_false (by have:=hpn.lo hd10; have:=cp_of hp hm.2 hd10; omega))<|st (mv rfl)<|gT rfl rfl (decide_eq_false (by have:=hpn.lo hd10; have:=cp_of hp hm.2 hd10; omega))<|st (mv rfl)<|gT rfl rfl (decide_eq_false (by have:=hpn.lo hd10; have:=cp_of hp hm.2 hd10; omega))<|?_
   have hcp:=cp_of hp hm.2 hd10
   obtain ⟨j,hj⟩ : ∃ j : Nat,(zs.getD k ({},{})).1.cellOf - 1=((j : Nat) : Int) :=⟨((zs.getD k ({},{})).1.cellOf - 1).toNat,by have:=hpn.lo hd10; omega⟩
   have hjl : j<s.cells.length:=by have:=hpn.lo hd10; omega
   have hj' : (zs.getD k ({},{})).1.cellP - 1=((j : Nat) : Int):=by rw [← hcp]; exact hj
   refine st (bw rfl rfl (wsub (c:=((j : Nat) : Int)) (by omega) (by omega) (by omega)))<|gT rfl rfl (decide_eq_false (by have:=hpn.lo hd10; have:=cp_of hp hm.2 hd10; omega))<|st (ix (j:=j) sl_173 sz_4 rfl rfl (by omega))<|gT rfl rfl (decide_eq_false (by have:=hpn.lo hd10; have:=cp_of hp hm.2 hd10; omega))<|st (ld one_4 rfl ((h.ro a5).x b1C_len (by decide) (by omega) false 0 _ rfl))<|st (pF rfl (decide_eq_false (by have:=hpn.lo hd10; have:=cp_of hp hm.2 hd10; omega)) rfl)<|xe<|nx<|cf rfl (Ct.named_no hsort hN hkn (by rw [← hnd]; exact hd10) (by rw [← hnd]; exact hj'))<|sk<|nx<|rg<|st (mv rfl)<|st (mv rfl)<|?_
   refine st (bw rfl rfl (wsub (c:=((j : Nat) : Int)) (by omega) (by omega) (by omega)))<|st (ix (j:=j) sl_173 sz_4 rfl rfl (by omega))<|sf (sor (enc:=b1C) (a:=true) h sz_4 b1C_len b1C_one rfl rfl rfl (by omega) (by omega) u5)<|?_
   rintro _ w h
   refine xe<|bn<|nx<|rg<|st (mv rfl)<|st (bw rfl rfl (wadd (c:=((k+1 : Nat) : Int)) (by omega) (by omega) (by omega)))<|st (sg rfl)<|xe<|nx<|?_
   exact ⟨(k+1,bs.set j true),⟨rfl,rfl,rfl,rfl,trivial⟩,⟨h.drop.drop.drop.drop.drop,(Ct.named_next hN hkn (by rw [← hnd]; exact hd10) (by rw [← hnd]; exact hj')),by (try dsimp only); rw [List.length_set]; omega,by (try dsimp only); omega⟩,by (try dsimp only); omega⟩
 ·have hg11:=of_decide_eq_false hd4
  refine cf rfl hd4<|xt<|tx<|tx<|be<|nx<|sq<|rg<|st (sg rfl)<|xe<|nx<|rt<|?_
  refine rr (res1 Tryz.results74 rfl)<|⟨rfl,((h.fr (.c r0 (.c r1 .n))).drop.drop.fr (.c r1 (.c r0 (.c r0 .n))))⟩
end
variable {B w : World} {L : List As}
theorem vcell_any (s : Ct.St) (zs : List (Ct.Node × Lq)) (pn pc : Option Addr) (cn cc : Nat) (c : Int) (h : SH B w (osl 77 14 (.slice pn zs.length cn) zs.length (zs.flatMap nodeP)::osl 36 1 (.slice pc s.cells.length cc) s.cells.length (s.cells.map (Value.int .i64))::nodesF zs::L)) (hzs : zs.map Prod.fst=nodesOf s) (hr : s.size≤100000000000) :
  Calls Tryz.prog 60 #[.agg [.slice pn zs.length cn,.slice pc s.cells.length cc,.int .i64 ((s.gen : Nat) : Int)].toArray,.int .i64 c] w fun e w'=>e=.returned (.int .i64 (s.load c).2)∧SH B w' (osl 77 14 (.slice pn zs.length cn) zs.length (zs.flatMap nodeP)::osl 36 1 (.slice pc s.cells.length cc) s.cells.length (s.cells.map (Value.int .i64))::nodesF zs::L):=by
 have hz2:=zs_len hzs
 have hrm : s.added.length+s.cells.length+s.gen+s.acc≤100000000000:=hr
 refine bn0 Tryz.func60 Tryz.ntmps60 h fun w h=>?_
 refine jX h fun b1 w h=>?_
 refine qg h (fun hd2 w h=>?_) fun hd2 w h=>?_
 have hg3:=of_decide_eq_true hd2
 refine go h fun w h=>?_
 exact rz ⟨by rw [show (s.load c).2=0 from load_no (by omega)],h.drop⟩
 have hg4:=of_decide_eq_false hd2
 refine go h fun w h=>?_
 refine qc h (fun hd5 w h=>?_) fun hd5 w h=>?_
 have hg6:=of_decide_eq_true hd5
 refine go h fun w h=>?_
 exact rz ⟨by rw [show (s.load c).2=0 from load_no (by omega)],h.drop⟩
 have hg7:=of_decide_eq_false hd5
 refine go h fun w h=>?_
 obtain ⟨j,hj⟩ : ∃ j : Nat,c - 1=((j : Nat) : Int) :=⟨(c - 1).toNat,by omega⟩
 refine st (bs ((j : Nat) : Int))<|go h fun w h=>?_
 obtain ⟨b8,rfl⟩:=h.fp a2 (by omega)
 refine go h fun w h=>?_
 exact rz ⟨by rw [show (s.load c).2=s.cells.getD j 0 from load_yes hj (by omega)],h.drop⟩
theorem vnode_any (s : Ct.St) (zs : List (Ct.Node × Lq)) (pn pc : Option Addr) (cn cc : Nat) (r : Int) (h : SH B w (osl 77 14 (.slice pn zs.length cn) zs.length (zs.flatMap nodeP)::osl 36 1 (.slice pc s.cells.length cc) s.cells.length (s.cells.map (Value.int .i64))::nodesF zs::L)) (hzs : zs.map Prod.fst=nodesOf s) (hr : s.size≤100000000000) :
  Calls Tryz.prog 61 #[.agg [.slice pn zs.length cn,.slice pc s.cells.length cc,.int .i64 ((s.gen : Nat) : Int)].toArray,.int .i64 r] w fun e w'=>∃ q,e=.returned (.agg (nodeC (s.node r) q).toArray)∧SH B w' (nodeR (s.node r) q::osl 77 14 (.slice pn zs.length cn) zs.length (zs.flatMap nodeP)::osl 36 1 (.slice pc s.cells.length cc) s.cells.length (s.cells.map (Value.int .i64))::nodesF zs::L):=by
 have hz2:=zs_len hzs
 have hrm : s.added.length+s.cells.length+s.gen+s.acc≤100000000000:=hr
 refine bn0 Tryz.func61 Tryz.ntmps61 h fun w h=>?_
 refine jX h fun b1 w h=>?_
 refine jA h fun b2 w h=>?_
 refine qg h (fun hd3 w h=>?_) fun hd3 w h=>?_
 have hg4:=of_decide_eq_true hd3
 refine go h fun w h=>?_
 refine rr (resC rfl rfl (h.b a0) Row.h) ?_
 rw [node_no s r (by omega)]; exact ⟨{},rfl,SH.nilN _ rfl rfl h.drop.drop⟩
 have hg5:=of_decide_eq_false hd3
 refine go h fun w h=>?_
 refine qc h (fun hd6 w h=>?_) fun hd6 w h=>?_
 have hg7:=of_decide_eq_true hd6
 refine go h fun w h=>?_
 refine rr (resC rfl rfl (h.b a0) Row.h) ?_
 rw [node_no s r (by omega)]; exact ⟨{},rfl,SH.nilN _ rfl rfl h.drop.drop⟩
 have hg8:=of_decide_eq_false hd6
 refine go h fun w h=>?_
 obtain ⟨j,hj⟩ : ∃ j : Nat,r - 1=((j : Nat) : Int) :=⟨(r - 1).toNat,by omega⟩
 refine st (bs ((j : Nat) : Int))<|go h fun w h=>?_
 obtain ⟨b9,rfl⟩:=h.fp a2 (by omega)
 refine go h fun w h=>?_
 refine st (ldr rfl ((h.ro a2).x nodeP_len (by decide) (by omega) ({},{})) Row.h)<|go h fun w h=>?_
 refine rr (resC rfl rfl (h.b a0) Row.h) ?_
 obtain ⟨hm,hn⟩:=node_at hzs hj (by omega)
 have h:=h.getN a4 hm
 rw [← hn]; exact ⟨_,rfl,(h.fr (.c r1 (.c r1 .n))).drop.drop⟩
theorem vroot_any (s : Ct.St) (zs : List (Ct.Node × Lq)) (pn pc : Option Addr) (cn cc : Nat) (t : Ct.Trie) (h : SH B w (osl 77 14 (.slice pn zs.length cn) zs.length (zs.flatMap nodeP)::osl 36 1 (.slice pc s.cells.length cc) s.cells.length (s.cells.map (Value.int .i64))::nodesF zs::L)) (hzs : zs.map Prod.fst=nodesOf s) (hr : s.size≤100000000000) :
  Calls Tryz.prog 75 #[.agg [.slice pn zs.length cn,.slice pc s.cells.length cc,.int .i64 ((s.gen : Nat) : Int)].toArray,.agg [.int .i64 t.root,.bool t.readOnly].toArray] w fun e w'=>e=.returned (.tuple #[.int .i64 (Ct.rootOf s t).1,.bool (Ct.rootOf s t).2])∧SH B w' (osl 77 14 (.slice pn zs.length cn) zs.length (zs.flatMap nodeP)::osl 36 1 (.slice pc s.cells.length cc) s.cells.length (s.cells.map (Value.int .i64))::nodesF zs::L):=by
 have hz2:=zs_len hzs
 have hrm : s.added.length+s.cells.length+s.gen+s.acc≤100000000000:=hr
 refine bn0 Tryz.func75 Tryz.ntmps75 h fun w h=>?_
 refine jX h fun b1 w h=>?_
 refine jX h fun b2 w h=>?_
 refine j000 (vcell_any _ _ _ _ _ _ _ h.to hzs hr) fun w h=>?_
 refine j100 (vnode_any _ _ _ _ _ _ _ h.to hzs hr) fun q3 w h=>?_
 refine jA h fun b4 w h=>?_
 refine qc h (fun hd5 w h=>?_) fun hd5 w h=>?_
 have hg6:=eq_of_beq hd5
 refine go h fun w h=>?_
 refine j000 (vcell_any _ _ _ _ _ _ _ h.to hzs hr) fun w h=>?_
 refine qc h (fun hd7 w h=>?_) fun hd7 w h=>?_
 have hg8:=eq_of_beq hd7
 refine go h fun w h=>?_
 refine j100 (vnode_any _ _ _ _ _ _ _ h.to hzs hr) fun q9 w h=>?_
 refine qc h (fun hd10 w h=>?_) fun hd10 w h=>?_
 have hg11:=bne_iff_ne.1 hd10
 refine go h fun w h=>?_
 refine rr (res2 rfl rfl rfl) ?_
 refine ⟨?_,h.to⟩
 have hx : Ct.rootOf s t=(0,false):=by unfold Ct.rootOf Ct.rootD; simp only [hd5,hd7,hd10,cond_true,cond_false,Bool.not_true,Bool.not_false]
 rw [hx]
 have hg12:=eq_of_bneF hd10
 refine go h fun w h=>?_
 refine rr (res2 rfl rfl rfl) ?_
 refine ⟨?_,h.to⟩
 have hx : Ct.rootOf s t=((s.node (s.load t.root).2).new,true):=by unfold Ct.rootOf Ct.rootD; simp only [hd5,hd7,hd10,cond_true,cond_false,Bool.not_true,Bool.not_false]
 rw [hx]
 have hg13:=ne_of_beq_false hd7
 refine go h fun w h=>?_
 refine j100 (vnode_any _ _ _ _ _ _ _ h.to hzs hr) fun q14 w h=>?_
 refine qc h (fun hd15 w h=>?_) fun hd15 w h=>?_
 have hg16:=bne_iff_ne.1 hd15
 refine go h fun w h=>?_
 refine rr (res2 rfl rfl rfl) ?_
 refine ⟨?_,h.to⟩
 have hx : Ct.rootOf s t=(0,false):=by unfold Ct.rootOf Ct.rootD; simp only [hd5,hd7,hd15,cond_true,cond_false,Bool.not_true,Bool.not_false]
 rw [hx]
 have hg17:=eq_of_bneF hd15
 refine go h fun w h=>?_
 refine rr (res2 rfl rfl rfl) ?_
 refine ⟨?_,h.to⟩
 have hx : Ct.rootOf s t=((s.node (s.load t.root).2).old,true):=by unfold Ct.rootOf Ct.rootD; simp only [hd5,hd7,hd15,cond_true,cond_false,Bool.not_true,Bool.not_false]
 rw [hx]
 have hg18:=ne_of_beq_false hd5
 refine go h fun w h=>?_
 refine j100 (vnode_any _ _ _ _ _ _ _ h.to hzs hr) fun q19 w h=>?_
 refine qc h (fun hd20 w h=>?_) fun hd20 w h=>?_
 have hg21:=bne_iff_ne.1 hd20
 refine go h fun w h=>?_
 refine rr (res2 rfl rfl rfl) ?_
 refine ⟨?_,h.to⟩
 have hx : Ct.rootOf s t=(0,false):=by unfold Ct.rootOf Ct.rootD; simp only [hd5,hd20,cond_true,cond_false,Bool.not_true,Bool.not_false]
 rw [hx]
 have hg22:=eq_of_bneF hd20
 refine go h fun w h=>?_
 refine rr (res2 rfl rfl rfl) ?_
 refine ⟨?_,h.to⟩
 have hx : Ct.rootOf s t=((s.load t.root).2,true):=by unfold Ct.rootOf Ct.rootD; simp only [hd5,hd20,cond_true,cond_false,Bool.not_true,Bool.not_false]
 rw [hx]
theorem vbody_any (s : Ct.St) (zs : List (Ct.Node × Lq)) (pn pc : Option Addr) (cn cc : Nat) (i : Int) (h : SH B w (osl 77 14 (.slice pn zs.length cn) zs.length (zs.flatMap nodeP)::osl 36 1 (.slice pc s.cells.length cc) s.cells.length (s.cells.map (Value.int .i64))::nodesF zs::L)) (hzs : zs.map Prod.fst=nodesOf s) (hr : s.size≤100000000000) :
  Calls Tryz.prog 179 #[.agg [.slice pn zs.length cn,.slice pc s.cells.length cc,.int .i64 ((s.gen : Nat) : Int)].toArray,.int .i64 i] w fun e w'=>e=.returned (.tuple #[.int .i64 (Ct.bodyOf s i).1,.bool (Ct.bodyOf s i).2])∧SH B w' (osl 77 14 (.slice pn zs.length cn) zs.length (zs.flatMap nodeP)::osl 36 1 (.slice pc s.cells.length cc) s.cells.length (s.cells.map (Value.int .i64))::nodesF zs::L):=by
 have hz2:=zs_len hzs
 have hrm : s.added.length+s.cells.length+s.gen+s.acc≤100000000000:=hr
 refine bn0 Tryz.func179 Tryz.ntmps179 h fun w h=>?_
 refine jX h fun b1 w h=>?_
 refine j100 (vnode_any _ _ _ _ _ _ _ h.to hzs hr) fun q2 w h=>?_
 refine qc h (fun hd3 w h=>?_) fun hd3 w h=>?_
 have hg4:=bne_iff_ne.1 hd3
 refine go h fun w h=>?_
 refine rr (res2 rfl rfl rfl) ?_
 refine ⟨?_,h.to⟩
 have hx : Ct.bodyOf s i=(0,false):=by unfold Ct.bodyOf Ct.bodyQ Ct.bodyP Ct.bodyM; simp only [hd3,cond_true,cond_false,Bool.not_true,Bool.not_false]
 rw [hx]
 have hg5:=eq_of_bneF hd3
 refine go h fun w h=>?_
 refine drH [1,3,5,6,9,10,12] (by kernel_rfl) h (.c r4 .n) fun w h=>go h fun w h=>?_
 refine s100 (vnode_any _ _ _ _ _ _ _ h.to hzs hr) fun q6 w h=>?_
 refine s000 (vcell_any _ _ _ _ _ _ _ h.to hzs hr) fun w h=>?_
 refine j100 (vnode_any _ _ _ _ _ _ _ h.to hzs hr) fun q7 w h=>?_
 refine j000 (main_y _ _ h.to) fun w h=>?_
 refine qc h (fun hd8 w h=>?_) fun hd8 w h=>?_
 have hd9 : (s.node (s.load (s.node i).main).2).isMain=false:=(Bool.not_eq_true' _).mp hd8
 refine go h fun w h=>?_
 refine rr (res2 rfl rfl rfl) ?_
 refine ⟨?_,h.to⟩
 have hx : Ct.bodyOf s i=(0,false):=by unfold Ct.bodyOf Ct.bodyQ Ct.bodyP Ct.bodyM; simp only [hd3,hd8,hd9,cond_true,cond_false,Bool.not_true,Bool.not_false]
 rw [hx]
 have hd10 : (s.node (s.load (s.node i).main).2).isMain=true:=(Bool.not_eq_false' _).mp hd8
 refine go h fun w h=>?_
 refine drH [1,3,5,6,9,10,12] (by kernel_rfl) h (.c r6 .n) fun w h=>go h fun w h=>?_
 refine s100 (vnode_any _ _ _ _ _ _ _ h.to hzs hr) fun q11 w h=>?_
 refine s000 (vcell_any _ _ _ _ _ _ _ h.to hzs hr) fun w h=>?_
 refine qc h (fun hd12 w h=>?_) fun hd12 w h=>?_
 have hg13:=eq_of_beq hd12
 refine go h fun w h=>?_
 refine rr (res2 rfl rfl rfl) ?_
 refine ⟨?_,h.to⟩
 have hx : Ct.bodyOf s i=((s.load (s.node i).main).2,true):=by unfold Ct.bodyOf Ct.bodyQ Ct.bodyP Ct.bodyM; simp only [hd3,hd8,hd10,hd12,cond_true,cond_false,Bool.not_true,Bool.not_false]
 rw [hx]
 have hg14:=ne_of_beq_false hd12
 refine go h fun w h=>?_
 refine j100 (vnode_any _ _ _ _ _ _ _ h.to hzs hr) fun q15 w h=>?_
 refine qc h (fun hd16 w h=>?_) fun hd16 w h=>?_
 have hg17:=eq_of_beq hd16
 refine go h fun w h=>?_
 refine j100 (vnode_any _ _ _ _ _ _ _ h.to hzs hr) fun q18 w h=>?_
 refine j100 (vnode_any _ _ _ _ _ _ _ h.to hzs hr) fun q19 w h=>?_
 refine j000 (main_y _ _ h.to) fun w h=>?_
 refine qc h (fun hd20 w h=>?_) fun hd20 w h=>?_
 have hd21 : (s.node (s.node (s.load (s.node (s.load (s.node i).main).2).prev).2).old).isMain=false:=(Bool.not_eq_true' _).mp hd20
 refine go h fun w h=>?_
 refine rr (res2 rfl rfl rfl) ?_
 refine ⟨?_,h.to⟩
 have hx : Ct.bodyOf s i=(0,false):=by unfold Ct.bodyOf Ct.bodyQ Ct.bodyP Ct.bodyM; simp only [hd3,hd8,hd10,hd12,hd16,hd20,hd21,cond_true,cond_false,Bool.not_true,Bool.not_false]
 rw [hx]
 have hd22 : (s.node (s.node (s.load (s.node (s.load (s.node i).main).2).prev).2).old).isMain=true:=(Bool.not_eq_false' _).mp hd20
 refine go h fun w h=>?_
 refine rr (res2 rfl rfl rfl) ?_
 refine ⟨?_,h.to⟩
 have hx : Ct.bodyOf s i=((s.node (s.load (s.node (s.load (s.node i).main).2).prev).2).old,true):=by unfold Ct.bodyOf Ct.bodyQ Ct.bodyP Ct.bodyM; simp only [hd3,hd8,hd10,hd12,hd16,hd20,hd22,cond_true,cond_false,Bool.not_true,Bool.not_false]
 rw [hx]
 have hg23:=ne_of_beq_false hd16
 refine go h fun w h=>?_
 refine j100 (vnode_any _ _ _ _ _ _ _ h.to hzs hr) fun q24 w h=>?_
 refine j000 (main_y _ _ h.to) fun w h=>?_
 refine qc h (fun hd25 w h=>?_) fun hd25 w h=>?_
 have hd26 : (s.node (s.load (s.node (s.load (s.node i).main).2).prev).2).isMain=false:=(Bool.not_eq_true' _).mp hd25
 refine go h fun w h=>?_
 refine rr (res2 rfl rfl rfl) ?_
 refine ⟨?_,h.to⟩
 have hx : Ct.bodyOf s i=(0,false):=by unfold Ct.bodyOf Ct.bodyQ Ct.bodyP Ct.bodyM; simp only [hd3,hd8,hd10,hd12,hd16,hd25,hd26,cond_true,cond_false,Bool.not_true,Bool.not_false]
 rw [hx]
 have hd27 : (s.node (s.load (s.node (s.load (s.node i).main).2).prev).2).isMain=true:=(Bool.not_eq_false' _).mp hd25
 refine go h fun w h=>?_
 refine rr (res2 rfl rfl rfl) ?_
 refine ⟨?_,h.to⟩
 have hx : Ct.bodyOf s i=((s.load (s.node (s.load (s.node i).main).2).prev).2,true):=by unfold Ct.bodyOf Ct.bodyQ Ct.bodyP Ct.bodyM; simp only [hd3,hd8,hd10,hd12,hd16,hd25,hd27,cond_true,cond_false,Bool.not_true,Bool.not_false]
 rw [hx]
theorem vRoot_any (s : Ct.St) (zs : List (Ct.Node × Lq)) (pn pc : Option Addr) (cn cc : Nat) (t : Ct.Trie) (h : SH B w (osl 77 14 (.slice pn zs.length cn) zs.length (zs.flatMap nodeP)::osl 36 1 (.slice pc s.cells.length cc) s.cells.length (s.cells.map (Value.int .i64))::nodesF zs::L)) (hzs : zs.map Prod.fst=nodesOf s) (hr : s.size≤100000000000) (hp : Ct.Proper s) (hf : ∀ n ∈ nodesOf s,n.branches.length≤1000000∧n.pairs.length≤200000000000∧n.bitmap<18446744073709551616) :
  Calls Tryz.prog 30 #[.agg [.slice pn zs.length cn,.slice pc s.cells.length cc,.int .i64 ((s.gen : Nat) : Int)].toArray,.agg [.int .i64 t.root,.bool t.readOnly].toArray] w fun e w'=>e=.returned (.tuple #[.int .i64 (Ct.rootOf s t).1,.bool (Ct.rootOf s t).2])∧SH B w' (osl 77 14 (.slice pn zs.length cn) zs.length (zs.flatMap nodeP)::osl 36 1 (.slice pc s.cells.length cc) s.cells.length (s.cells.map (Value.int .i64))::nodesF zs::L):=by
 have hz2:=zs_len hzs
 have hrm : s.added.length+s.cells.length+s.gen+s.acc≤100000000000:=hr
 refine bn0 Tryz.func30 Tryz.ntmps30 h fun w h=>?_
 refine jX h fun b1 w h=>?_
 refine jX h fun b2 w h=>?_
 refine j000 (rproper_any _ _ _ _ _ _ h.to hzs hp hf hr) fun w h=>?_
 refine j000 (vroot_any _ _ _ _ _ _ _ h.to hzs hr) fun w h=>?_
 exact rr (res2 rfl rfl rfl)<|⟨rfl,h.to⟩
theorem vindices_any (b : Nat) (h : SH B w (L)) (hb : b<18446744073709551616) :
  Calls Tryz.prog 180 #[.int .u64 ((b : Nat) : Int)] w fun e w'=>∃ p n c,e=.returned (.slice p n c)∧SH B w' L:=by
 refine bn0 Tryz.func180 Tryz.ntmps180 h fun w h=>?_
 have h:=SH.nil 3 1 h
 refine lp (α:=Nat × List Int × Option Addr × Nat) (fun ρ=>(.c 0 (.int .u64 ((b : Nat) : Int)) (.c 3 (.slice ρ.2.2.1 ρ.2.1.length ρ.2.2.2) (.c 4 (.int .i64 ((ρ.1 : Nat) : Int)) .n)))) (fun ρ w=>SH B w (osl 3 1 (.slice ρ.2.2.1 ρ.2.1.length ρ.2.2.2) ρ.2.1.length (ρ.2.1.map (Value.int .i64))::L)∧(ρ.1≤64)∧(ρ.2.1.length≤ρ.1)) (fun ρ=>64 - ρ.1) (0,[],none,0) ⟨rfl,rfl,rfl,trivial⟩ ⟨h,(Nat.zero_le _),(Nat.le_refl _)⟩ ?_
 rintro ⟨k,xs,px,cx⟩ w ⟨h,hk,hx⟩
 dsimp only at *
 refine go h fun w h=>?_
 refine qc h (fun hd1 w h=>?_) fun hd1 w h=>?_
 have hg2:=of_decide_eq_true hd1
 refine go h fun w h=>?_
 refine cl (ca en_232 rfl) ((rhas_any b ((k : Nat) : Int) _ hb).mono ?_)
 rintro _ _ ⟨rfl,rfl⟩
 refine ⟨_,rfl,?_⟩
 refine xe<|nx<|?_
 refine go h fun w h=>?_
 refine qc h (fun hd3 w h=>?_) fun hd3 w h=>?_
 refine sf (bu [.int .i64 ((k : Nat) : Int)] h Slc.h Ss.h rfl (by kernel_rfl) rfl (by decide) (by decide)) ?_
 rintro _ w ⟨b4,rfl,h⟩
 refine go h fun w h=>?_
 refine sf (ap h Slc.h rfl Ss.h rfl (by decide) rfl rfl (fun _=>u1) (h.ro a0) (by simp [Value.oneCell']) (app1 xs ((k : Nat) : Int)) (join_ints _ _) (by simp only [List.length_append,List.length_singleton]; unfold maxLen; omega) (by simp only [List.length_append,List.length_singleton]; omega)) ?_
 rintro _ w ⟨p5,c6,rfl,h⟩
 refine go h fun w h=>?_
 exact ⟨(k+1,xs ++ [((k : Nat) : Int)],p5,c6),⟨rfl,rfl,rfl,trivial⟩,⟨h.drop,by (try dsimp only); omega,by (try dsimp only); first | omega | (rw [List.length_append,List.length_singleton]; omega)⟩,by (try dsimp only); omega⟩
 exact ⟨(k+1,xs,px,cx),⟨rfl,rfl,rfl,trivial⟩,⟨h,by (try dsimp only); omega,by (try dsimp only); first | omega | (rw [List.length_append,List.length_singleton]; omega)⟩,by (try dsimp only); omega⟩
 have hg7:=of_decide_eq_false hd1
 refine go h fun w h=>?_
 exact rz ⟨_,_,_,rfl,h.drop⟩
theorem vbody_flat (s : Ct.St) (zs : List (Ct.Node × Lq)) (pn pc : Option Addr) (cn cc : Nat) (i m : Int) (b : Bool) (hb : Ct.bodyOf s i=(m,b)) (h : SH B w (osl 77 14 (.slice pn zs.length cn) zs.length (zs.flatMap nodeP)::osl 36 1 (.slice pc s.cells.length cc) s.cells.length (s.cells.map (Value.int .i64))::nodesF zs::L)) (hzs : zs.map Prod.fst=nodesOf s) (hr : s.size≤100000000000) :
  Calls Tryz.prog 179 #[.agg [.slice pn zs.length cn,.slice pc s.cells.length cc,.int .i64 ((s.gen : Nat) : Int)].toArray,.int .i64 i] w fun e w'=>e=.returned (.tuple #[.int .i64 m,.bool b])∧SH B w' (osl 77 14 (.slice pn zs.length cn) zs.length (zs.flatMap nodeP)::osl 36 1 (.slice pc s.cells.length cc) s.cells.length (s.cells.map (Value.int .i64))::nodesF zs::L):=by
 have:=vbody_any s zs pn pc cn cc i h hzs hr
 rw [hb] at this; exact this
theorem vplaces_flat (s : Ct.St) (zs : List (Ct.Node × Lq)) (pn pc : Option Addr) (cn cc : Nat) (t : Ct.Trie) (rn : Nat) (m : Int) (psn : Option Addr) (csn : Nat) (h : SH B w (osl 77 14 (.slice pn zs.length cn) zs.length (zs.flatMap nodeP)::osl 36 1 (.slice pc s.cells.length cc) s.cells.length (s.cells.map (Value.int .i64))::nodesF zs::osl 4 1 (.slice psn (zs.length+1) csn) (zs.length+1) ((List.replicate (zs.length+1) false).flatMap b1C)::L)) (hzs : zs.map Prod.fst=nodesOf s) (hr : s.size≤100000000000) (hfl : Ct.Flat s t ((rn : Nat) : Int) m) (hbm : (s.node m).bitmap<18446744073709551616) (hbl : (s.node m).branches.length≤1000000) :
  Calls Tryz.prog 114 #[.agg [.slice pn zs.length cn,.slice pc s.cells.length cc,.int .i64 ((s.gen : Nat) : Int)].toArray,.agg [.int .i64 ((rn : Nat) : Int),.int .i64 0,.int .i64 0,.int .i64 0,.slice none 0 0].toArray,.slice psn (zs.length+1) csn] w fun e w'=>∃ pl pp cp,e=.returned (.tuple #[.slice pl 1 1,.slice pp (Ct.flatPairs s m).length cp,.bool true])∧SH B w' (osl 132 2 (.slice pp (Ct.flatPairs s m).length cp) (Ct.flatPairs s m).length ((Ct.flatPairs s m).flatMap pairC)::osl 123 5 (.slice pl 1 1) 1 [.int .i64 ((rn : Nat) : Int),.int .i64 m,.int .i64 0,.int .i64 0,.slice none 0 0]::osl 77 14 (.slice pn zs.length cn) zs.length (zs.flatMap nodeP)::osl 36 1 (.slice pc s.cells.length cc) s.cells.length (s.cells.map (Value.int .i64))::nodesF zs::L):=by
 have hz2:=zs_len hzs
 have hrm : s.added.length+s.cells.length+s.gen+s.acc≤100000000000:=hr
 have hkd:=hfl.kind
 have hhi:=hfl.hi
 refine bn0 Tryz.func114 Tryz.ntmps114 h fun w h=>?_
 refine jX h fun b1 w h=>?_
 refine jX h fun b2 w h=>?_
 refine j000 (vbody_flat _ _ _ _ _ _ _ _ _ hfl.body h.to hzs hr) fun w h=>?_
 obtain ⟨b3,rfl⟩:=h.fp a5 (by omega)
 refine go h fun w h=>?_
 refine st (ld One.h rfl ((h.ro a5).x b1C_len (by decide) (by omega) false 0 _ rfl))<|go h fun w h=>?_
 refine cf rfl (rep_false _ _)<|go h fun w h=>?_
 refine sf (sor (enc:=b1C) (a:=true) h Sz.h b1C_len b1C_one rfl rfl rfl (by omega) (by rw [List.length_replicate]) u5) ?_
 rintro _ w h
 refine go h fun w h=>?_
 refine sf (bu [.int .i64 ((rn : Nat) : Int),.int .i64 m,.int .i64 0,.int .i64 0,.slice none 0 0] h Slc.h Ss.h rfl (by kernel_rfl) rfl (by decide) (by decide)) ?_
 rintro _ w ⟨b4,rfl,h⟩
 refine go h fun w h=>?_
 refine j100 (vnode_any _ _ _ _ _ _ _ h.to hzs hr) fun q5 w h=>?_
 refine jA h fun b6 w h=>?_
 refine cf rfl (beq_eq_false_iff_ne.2 (by omega))<|go h fun w h=>?_
 refine cf rfl (beq_eq_false_iff_ne.2 (by omega))<|go h fun w h=>?_
 obtain ⟨pb7,cb8,pp9,cp10⟩:=q5
 have h:=h.fr (.c r1 .n)
 have h:=SH.se (l:=[branchR (s.node m) (⟨pb7,cb8,pp9,cp10⟩),pairR (s.node m) (⟨pb7,cb8,pp9,cp10⟩)]) h
 refine go h fun w h=>?_
 refine j300 (vindices_any _ h.to hbm) fun pi11 ni12 ci13 w h=>?_
 have h:=SH.nil 132 2 h
 refine lp (α:=Nat × Option Addr × Nat) (fun ρ=>(.c 2 (.slice (some ⟨b3,0,none⟩) (zs.length+1) csn) (.c 3 (.pointer (some ⟨b1,0,none⟩)) (.c 4 (.pointer (some ⟨b2,0,none⟩)) (.c 6 (.slice (some ⟨b4,0,none⟩) 1 1) (.c 7 (.slice ρ.2.1 ρ.1 ρ.2.2) (.c 10 (.pointer (some ⟨b6,0,none⟩)) (.c 11 (.slice pi11 ni12 ci13) (.c 12 (.int .i64 ((ρ.1 : Nat) : Int)) .n))))))))) (fun ρ w=>SH B w (osl 132 2 (.slice ρ.2.1 ρ.1 ρ.2.2) ρ.1 (((Ct.flatPairs s m).take ρ.1).flatMap pairC)::rsl 1 (.slice pb7 (s.node m).branches.length cb8) (s.node m).branches.length ((s.node m).branches.map (Value.int .i64))::rsl 2 (.slice pp9 (s.node m).pairs.length cp10) (s.node m).pairs.length ((s.node m).pairs.flatMap pairC)::bl b6 (nodeC (s.node m) (⟨pb7,cb8,pp9,cp10⟩)) 77::osl 77 14 (.slice pn zs.length cn) zs.length (zs.flatMap nodeP)::osl 36 1 (.slice pc s.cells.length cc) s.cells.length (s.cells.map (Value.int .i64))::nodesF zs::osl 123 5 (.slice (some ⟨b4,0,none⟩) 1 1) 1 ([.int .i64 ((rn : Nat) : Int),.int .i64 m,.int .i64 0,.int .i64 0,.slice none 0 0])::bl b2 ([.int .i64 ((rn : Nat) : Int),.int .i64 m,.int .i64 0,.int .i64 0,.slice none 0 0]) 123::bl b1 ([.slice pn zs.length cn,.slice pc s.cells.length cc,.int .i64 ((s.gen : Nat) : Int)]) 62::osl 4 1 (.slice (some ⟨b3,0,none⟩) (zs.length+1) csn) (zs.length+1) (((List.replicate (zs.length+1) false).set rn true).flatMap b1C)::L)∧(ρ.1≤(s.node m).branches.length)) (fun ρ=>(s.node m).branches.length - ρ.1) (0,none,0) ⟨rfl,rfl,rfl,rfl,rfl,rfl,rfl,rfl,trivial⟩ ⟨h,(Nat.zero_le _)⟩ ?_
 rintro ⟨k,pq,cq⟩ w ⟨h,hk⟩
 dsimp only at *
 refine go h fun w h=>?_
 refine qc h (fun hd14 w h=>?_) fun hd14 w h=>?_
 have hg15:=of_decide_eq_true hd14
 refine go h fun w h=>?_
 obtain ⟨b16,o17,rfl⟩:=h.fq a1 (by omega)
 refine drB (F:=[bl b1 ([.slice pn zs.length cn,.slice pc s.cells.length cc,.int .i64 ((s.gen : Nat) : Int)]) 62,bl b6 (nodeC (s.node m) (⟨some ⟨b16,o17,none⟩,cb8,pp9,cp10⟩)) 77,rsl 1 (.slice (some ⟨b16,o17,none⟩) (s.node m).branches.length cb8) (s.node m).branches.length ((s.node m).branches.map (Value.int .i64))]) [1,3,5,7,9,11] 6 7 [14,16] [12,16] (by kernel_rfl) h (fun w h=>(hC (h.at_ a9) (hC (h.at_ a3) (hC (h.at_ a1) hN)))) fun w h=>go h fun w h=>?_
 refine xzB ?_ ?_
 refine s100 (vnode_any _ _ _ _ _ _ _ h.to hzs hr) fun q18 w h=>?_
 refine jB h fun b19 w h=>?_
 refine ct rfl (beq_iff_eq.2 (hfl.br k (by omega)))<|go h fun w h=>?_
 refine sf (bu [.string (s.node ((s.node m).branches.getD k 0)).key,.int .u64 (((s.node ((s.node m).branches.getD k 0)).value : Nat) : Int)] h Slc.h Ss.h rfl (by kernel_rfl) rfl (by decide) (by decide)) ?_
 rintro _ w ⟨b20,rfl,h⟩
 refine go h fun w h=>?_
 refine sf (ap h Slc.h rfl Ss.h rfl (by decide) rfl rfl (fun _=>u6) (h.ro a0) (by simp [Value.oneCell']) rfl (flat_join (by omega)) (by unfold maxLen; omega) (by omega)) ?_
 rintro _ w ⟨p21,c22,rfl,h⟩
 refine go h fun w h=>?_
 exact ⟨(k+1,p21,c22),⟨rfl,rfl,rfl,rfl,rfl,rfl,rfl,rfl,trivial⟩,⟨h.to,by (try dsimp only); omega⟩,by (try dsimp only); omega⟩
 refine jB h fun b23 w h=>?_
 refine s100 (vnode_any _ _ _ _ _ _ _ h.to hzs hr) fun q24 w h=>?_
 refine ct rfl (beq_iff_eq.2 (hfl.br k (by omega)))<|go h fun w h=>?_
 refine sf (bu [.string (s.node ((s.node m).branches.getD k 0)).key,.int .u64 (((s.node ((s.node m).branches.getD k 0)).value : Nat) : Int)] h Slc.h Ss.h rfl (by kernel_rfl) rfl (by decide) (by decide)) ?_
 rintro _ w ⟨b25,rfl,h⟩
 refine go h fun w h=>?_
 refine sf (ap h Slc.h rfl Ss.h rfl (by decide) rfl rfl (fun _=>u6) (h.ro a0) (by simp [Value.oneCell']) rfl (flat_join (by omega)) (by unfold maxLen; omega) (by omega)) ?_
 rintro _ w ⟨p26,c27,rfl,h⟩
 refine go h fun w h=>?_
 exact ⟨(k+1,p26,c27),⟨rfl,rfl,rfl,rfl,rfl,rfl,rfl,rfl,trivial⟩,⟨(h.to.fr (.c r3 (.c r3 (.c r3 (.c r3 (.c r0 (.c r0 (.c r0 (.c r0 (.c r0 (.c r0 (.c r0 .n)))))))))))),by (try dsimp only); omega⟩,by (try dsimp only); omega⟩
 have hg28:=of_decide_eq_false hd14
 refine go h fun w h=>?_
 refine rr (res3 rfl rfl rfl rfl) ?_
 have hkl : k=(Ct.flatPairs s m).length:=by unfold Ct.flatPairs; rw [List.length_map]; omega
 subst hkl
 rw [List.take_length] at h
 exact ⟨_,_,_,rfl,(h.to.fr (.c r0 (.c r3 (.c r0 (.c r0 (.c r0 .n))))))⟩
theorem vRoot_flat (s : Ct.St) (zs : List (Ct.Node × Lq)) (pn pc : Option Addr) (cn cc : Nat) (t : Ct.Trie) (r : Int) (b : Bool) (hb : Ct.rootOf s t=(r,b)) (h : SH B w (osl 77 14 (.slice pn zs.length cn) zs.length (zs.flatMap nodeP)::osl 36 1 (.slice pc s.cells.length cc) s.cells.length (s.cells.map (Value.int .i64))::nodesF zs::L)) (hzs : zs.map Prod.fst=nodesOf s) (hr : s.size≤100000000000) (hp : Ct.Proper s) (hf : ∀ n ∈ nodesOf s,n.branches.length≤1000000∧n.pairs.length≤200000000000∧n.bitmap<18446744073709551616) :
  Calls Tryz.prog 30 #[.agg [.slice pn zs.length cn,.slice pc s.cells.length cc,.int .i64 ((s.gen : Nat) : Int)].toArray,.agg [.int .i64 t.root,.bool t.readOnly].toArray] w fun e w'=>e=.returned (.tuple #[.int .i64 r,.bool b])∧SH B w' (osl 77 14 (.slice pn zs.length cn) zs.length (zs.flatMap nodeP)::osl 36 1 (.slice pc s.cells.length cc) s.cells.length (s.cells.map (Value.int .i64))::nodesF zs::L):=by
 have:=vRoot_any s zs pn pc cn cc t h hzs hr hp hf
 rw [hb] at this; exact this
section
attribute [local semireducible] Go.E.wpL Go.E.wpS Go.E.X Go.E.XS Go.E.C Go.E.thn Go.E.blk Go.E.fin Go.E.Y Go.E.U Go.E.F Go.E.Ca Go.E.Res Go.E.bl Go.E.rb Go.E.osl Go.E.rsl Go.E.ex Go.E.ce Go.E.pu Go.E.sK Go.E.gK Go.E.bK Go.E.zK Go.E.boxA Go.E.cloA Go.E.codeA clA cdA
attribute [local irreducible] Go.E.wpL Go.E.wpS
variable {B w : World} {L : List As}
theorem vPlaces_flat (s : Ct.St) (zs : List (Ct.Node × Lq)) (pn pc : Option Addr) (cn cc : Nat) (t : Ct.Trie) (rn : Nat) (m : Int) (h : SH B w (osl 77 14 (.slice pn zs.length cn) zs.length (zs.flatMap nodeP)::osl 36 1 (.slice pc s.cells.length cc) s.cells.length (s.cells.map (Value.int .i64))::nodesF zs::L)) (hzs : zs.map Prod.fst=nodesOf s) (hr : s.size≤100000000000) (hp : Ct.Proper s) (hf : ∀ n ∈ nodesOf s,n.branches.length≤1000000∧n.pairs.length≤200000000000∧n.bitmap<18446744073709551616) (hfl : Ct.Flat s t ((rn : Nat) : Int) m) (hbm : (s.node m).bitmap<18446744073709551616) (hbl : (s.node m).branches.length≤1000000) :
  Calls Tryz.prog 59 #[.agg [.slice pn zs.length cn,.slice pc s.cells.length cc,.int .i64 ((s.gen : Nat) : Int)].toArray,.agg [.int .i64 t.root,.bool t.readOnly].toArray] w fun e w'=>∃ pl pp cp,e=.returned (.tuple #[.slice pl 1 1,.slice pp (Ct.flatPairs s m).length cp,.bool true])∧SH B w' (osl 132 2 (.slice pp (Ct.flatPairs s m).length cp) (Ct.flatPairs s m).length ((Ct.flatPairs s m).flatMap pairC)::osl 123 5 (.slice pl 1 1) 1 [.int .i64 ((rn : Nat) : Int),.int .i64 m,.int .i64 0,.int .i64 0,.slice none 0 0]::osl 77 14 (.slice pn zs.length cn) zs.length (zs.flatMap nodeP)::osl 36 1 (.slice pc s.cells.length cc) s.cells.length (s.cells.map (Value.int .i64))::nodesF zs::L):=by
 have hz2:=zs_len hzs
 have hrm : s.added.length+s.cells.length+s.gen+s.acc≤100000000000:=hr
 refine bgn (args:=[_,_]) Tryz.func59 rfl Tryz.ntmps59 rfl ?_
 refine sq<|rg<|sf (bx h rfl rfl)<|?_
 rintro _ w ⟨b1,rfl,h⟩
 refine sf (bx h rfl rfl)<|?_
 rintro _ w ⟨b2,rfl,h⟩
 refine st (sg rfl)<|st (sg rfl)<|st (sg rfl)<|xe<|nx<|sq<|rg<|st (ldr rfl (rows_all (h.b a1)) row_62)<|st (ldr rfl (rows_all (h.b a0)) row_35)<|cl (ca en_30 rfl) ((vRoot_flat s zs pn pc cn cc t ((rn : Nat) : Int) true hfl.root (h.fr (.c r2 (.c r2 (.c r2 .n)))) hzs hr hp hf).mono ?_)
 rintro _ w ⟨rfl,h⟩
 refine ⟨_,rfl,?_⟩
 refine st (mv rfl)<|st (xr rfl rfl)<|st (xr rfl rfl)<|st (sg rfl)<|st (sg rfl)<|xe<|nx<|sq<|sq<|rg<|st (mv rfl)<|st (nt rfl)<|xe<|nx<|cF rfl<|sk<|nx<|sq<|drH [1,3,5,7,9,11,13,14,16,19,21,23,25,26,28,30] (by kernel_rfl) h (.c r4 .n) fun w h=>tk (fun W H=>ldr rfl (rows_all (H.b a0)) row_62)<|tk (fun W H=>mv rfl)<|tk (fun W H=>bd [.int .i64 ((rn : Nat) : Int),.int .i64 0,.int .i64 0,.int .i64 0,.slice none 0 0] bd_123 rfl (by kernel_rfl))<|tk (fun W H=>fa fo_62_0 rfl)<|tk (fun W H=>ld one_59 rfl (H.c a0 rfl))<|tk (fun W H=>ln sl_59 rfl rfl)<|tk (fun W H=>bw rfl rfl (wadd (c:=((zs.length+1 : Nat) : Int)) (by omega) (by omega) (by omega)))<|ff (mk h sl_173 ss_4 rfl rfl (by omega) (by unfold maxLen; omega))<|?_
 rintro _ w ⟨b3,rfl,h⟩
 rw [madeRows b1C_len (by decide) (d:=false) rfl] at h
 refine ⟨h.hs (.c r5 .n),?_⟩
 refine cs (ca en_114 rfl) ((vplaces_flat s zs pn pc cn cc t rn m _ _ (h.fr (.c r1 (.c r1 (.c r1 (.c r0 .n))))) hzs hr hfl hbm hbl).mono ?_)
 rintro _ w ⟨pl4,pp5,cp6,rfl,h⟩
 refine ⟨_,rfl,h.hs (.c r6 .n),?_⟩
 refine tk (fun W H=>mv rfl)<|tk (fun W H=>xr rfl rfl)<|tk (fun W H=>xr rfl rfl)<|tk (fun W H=>xr rfl rfl)<|ef (sg rfl) (h.hs (.c r6 .n))<|ef (sg rfl) (h.hs (.c r6 .n))<|ef (sg rfl) (h.hs (.c r6 .n))<|xz<|nx<|sq<|sq<|rg<|st (mv rfl)<|st (nt rfl)<|xe<|nx<|cF rfl<|sk<|nx<|sq<|rg<|st (mv rfl)<|st (mv rfl)<|st (sg rfl)<|st (sg rfl)<|st (sg rfl)<|xe<|nx<|rt<|?_
 refine rr (res3 Tryz.results59 rfl rfl rfl)<|⟨pl4,pp5,cp6,rfl,(h.fr (.c r5 (.c r5 .n))).drop.drop⟩
end
variable {B w : World} {L : List As}
theorem vContents_flat (s : Ct.St) (zs : List (Ct.Node × Lq)) (pn pc : Option Addr) (cn cc : Nat) (t : Ct.Trie) (rn : Nat) (m : Int) (h : SH B w (osl 77 14 (.slice pn zs.length cn) zs.length (zs.flatMap nodeP)::osl 36 1 (.slice pc s.cells.length cc) s.cells.length (s.cells.map (Value.int .i64))::nodesF zs::L)) (hzs : zs.map Prod.fst=nodesOf s) (hr : s.size≤100000000000) (hp : Ct.Proper s) (hf : ∀ n ∈ nodesOf s,n.branches.length≤1000000∧n.pairs.length≤200000000000∧n.bitmap<18446744073709551616) (hfl : Ct.Flat s t ((rn : Nat) : Int) m) (hbm : (s.node m).bitmap<18446744073709551616) (hbl : (s.node m).branches.length≤1000000) :
  Calls Tryz.prog 24 #[.agg [.slice pn zs.length cn,.slice pc s.cells.length cc,.int .i64 ((s.gen : Nat) : Int)].toArray,.agg [.int .i64 t.root,.bool t.readOnly].toArray] w fun e w'=>∃ pp cp,e=.returned (.tuple #[.slice pp (Ct.flatPairs s m).length cp,.int .i64 0])∧SH B w' (osl 132 2 (.slice pp (Ct.flatPairs s m).length cp) (Ct.flatPairs s m).length ((Ct.flatPairs s m).flatMap pairC)::L):=by
 have hz2:=zs_len hzs
 have hrm : s.added.length+s.cells.length+s.gen+s.acc≤100000000000:=hr
 refine bn0 Tryz.func24 Tryz.ntmps24 h fun w h=>?_
 refine jX h fun b1 w h=>?_
 refine jX h fun b2 w h=>?_
 refine j300 (vPlaces_flat _ _ _ _ _ _ _ _ _ h.to hzs hr hp hf hfl hbm hbl) fun pl3 pp4 cp5 w h=>?_
 exact rr (res2 rfl rfl rfl)<|⟨pp4,cp5,rfl,h.to⟩
end Go.Proofs.YtmliojdkmfhmmaaGreat
end
