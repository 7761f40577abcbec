/- Parts of a proof: Lr, Wv, Ayl, Wa, Aym. -/
import Derived.Test.YtmliojdkmfhmmaaGreatW40
import Derived.Test.YtmliojdkmfhmmaaGreatW27
import Derived.Test.YtmliojdkmfhmmaaGreatW31
import Derived.Test.YtmliojdkmfhmmaaGreatW26
import Derived.Test.YtmliojdkmfhmmaaGreatW12
import Derived.Test.YtmliojdkmfhmmaaGreatW13
import Derived.Test.YtmliojdkmfhmmaaGreatW14
import Derived.Test.YtmliojdkmfhmmaaGreatW15
import Derived.Test.YtmliojdkmfhmmaaGreatW16
import Derived.Test.YtmliojdkmfhmmaaGreatW29
import Derived.Test.YtmliojdkmfhmmaaGreatW21
import Derived.Test.YtmliojdkmfhmmaaGreatW39
import Derived.Test.YtmliojdkmfhmmaaGreatW28
set_option linter.unusedVariables false
set_option linter.unusedSimpArgs false
set_option maxRecDepth 100000
set_option maxHeartbeats 4000000
section
namespace Go.Proofs.YtmliojdkmfhmmaaGreat
open Go.RowKit Go.E
attribute [local irreducible] Go.E.wpL Go.E.wpS
theorem nodes_small {s : Ct.St} (hf : Ct.AllFit s) (hr : s.size≤100000000000) : ∀ n ∈ nodesOf s,n.branches.length≤1000000∧n.pairs.length≤200000000000∧n.bitmap<18446744073709551616:=by
 have hm : Ct.markNode.branches.length≤1000000∧Ct.markNode.pairs.length≤200000000000∧Ct.markNode.bitmap<18446744073709551616:=by decide
 intro n m
 unfold nodesOf at m
 rcases List.mem_cons.1 m with rfl | m
 ·exact hm
 ·rcases List.mem_cons.1 m with rfl | m
  ·exact hm
  ·have h:=hf n m
   have h1:=fit_lens h (by unfold Ct.St.size at hr; omega)
   exact ⟨h1.1,h1.2,h.1.2.2.1⟩
variable {B w : World} {L : List As}
theorem lnext_any (mb tb : Nat) (s : Ct.St) (ys : List Ct.Px) (ps : List (Nat × Nat)) (pk : List Int) (ppl : Option Addr) (cpl : Nat) (h : SH B w (exsA mb (ys.map pxo)::memA mb s::rsl 2 (.slice ppl ps.length cpl) ps.length (ps.flatMap ppC)::tapE tb pk::L)) (hps : ys.map ppo=ps) (h0 : 0<ps.length) (h1 : ps.length≤100) :
  Calls Tryz.prog 53 #[.slice ppl ps.length cpl,.pointer (some ⟨tb,0,none⟩)] w fun e w'=>∃ k : Int,(0≤k→∃ j : Nat,∃ hj : j<ys.length,k=((j : Nat) : Int)∧ys[j].e.done=false)∧e=.returned (.int .i64 k)∧SH B w' (exsA mb (ys.map pxo)::memA mb s::rsl 2 (.slice ppl ps.length cpl) ps.length (ps.flatMap ppC)::tapE tb pk::L):=by
 have hyl : ys.length=ps.length:=by rw [← hps,List.length_map]
 refine bgn (args:=[_,_]) Tryz.func53 rfl Tryz.ntmps53 rfl ?_
 refine sq<|rg<|st (sg rfl)<|xe<|nx<|sq<|sq<|rg<|st (mv rfl)<|cl (ca en_45 rfl) ((left_e tb pk (h.fr (.c r3 .n))).mono ?_)
 rintro _ w ⟨lf1,rfl,h⟩
 refine ⟨_,rfl,?_⟩
 refine xe<|nx<|?_
 rcases Bool.eq_false_or_eq_true lf1 with hd2 | hd2
 refine ct rfl hd2<|sq<|rg<|st (mv rfl)<|st (mv rfl)<|st (ln sl_87 rfl rfl)<|cl (ca en_46 rfl) ((next_e tb pk ((ps.length : Nat) : Int) (h.fr (.c r0 .n)) (by omega) (by omega)).mono ?_)
 rintro _ w ⟨j3,hjj3,rfl,h⟩
 refine ⟨_,rfl,?_⟩
 refine st (sg rfl)<|xe<|nx<|sq<|rg<|st (mv rfl)<|st (mv rfl)<|?_
 obtain ⟨b4,o5,rfl⟩:=h.fq a3 (by omega)
 refine st (ix (j:=j3) sl_87 sz_56 rfl rfl (by omega))<|st (fa fo_56_1 rfl)<|st (ld one_53 rfl ((h.rr a3).x ppC_len (by decide) (by omega) (0,0) 1 _ rfl))<|cl (ca en_51 rfl) ((xdone_at (k:=j3) (h.fr (.c r1 (.c r1 .n))) hps (by omega)).mono ?_)
 rintro _ w ⟨rfl,h⟩
 refine ⟨_,rfl,?_⟩
 refine st (nt rfl)<|xe<|nx<|?_
 rcases Bool.eq_false_or_eq_true (!(ys.getD j3 {}).e.done) with hd6 | hd6
 have hd7 : (ys.getD j3 {}).e.done=false:=(Bool.not_eq_true' _).mp hd6
 refine ct rfl hd6<|sq<|rg<|st (mv rfl)<|st (sg rfl)<|xe<|nx<|rt<|tr<|?_
 refine rr (res1 Tryz.results53 rfl)<|⟨_,(fun _=>⟨j3,by omega,rfl,by rw [← getD_el (d:={}) (by omega)]; exact hd7⟩),rfl,(h.fr (.c r0 (.c r0 (.c r1 (.c r0 .n)))))⟩
 have hd8 : (ys.getD j3 {}).e.done=true:=(Bool.not_eq_false' _).mp hd6
 refine cf rfl hd6<|sk<|nx<|sq<|sq<|rg<|st (mv rfl)<|st (ln sl_87 rfl rfl)<|st (mv rfl)<|xe<|nx<|bk<|?_
 refine lp (α:=Nat) (fun ρ=>(.c 0 (.slice (some ⟨b4,o5,none⟩) ps.length cpl) (.c 22 (.int .i64 ((ps.length : Nat) : Int)) (.c 23 (.int .i64 ((ρ : Nat) : Int)) .n)))) (fun ρ w=>SH B w (exsA mb (ys.map pxo)::memA mb s::tapE tb pk::rsl 2 (.slice (some ⟨b4,o5,none⟩) ps.length cpl) ps.length (ps.flatMap ppC)::L)∧(ρ≤ps.length)) (fun ρ=>ps.length - ρ) 0 ⟨rfl,rfl,rfl,trivial⟩ ⟨h,Nat.zero_le _⟩ ?_
 rintro k w ⟨h,hk⟩
 refine sq<|rg<|st (bi rfl rfl rfl)<|xe<|nx<|sq<|?_
 rcases Bool.eq_false_or_eq_true (decide ((((k : Nat) : Int) : Int)<((ps.length : Nat) : Int))) with hd9 | hd9
 have hg10:=of_decide_eq_true hd9
 refine ct rfl hd9<|sk<|nx<|sq<|bk<|sq<|rg<|st (mv rfl)<|st (sg rfl)<|xe<|nx<|sq<|rg<|st (mv rfl)<|st (mv rfl)<|st (ix (j:=k) sl_87 sz_56 rfl rfl (by omega))<|st (fa fo_56_1 rfl)<|st (ld one_53 rfl ((h.rr a3).x ppC_len (by decide) (by omega) (0,0) 1 _ rfl))<|cl (ca en_51 rfl) ((xdone_at (k:=k) (h.fr (.c r0 (.c r0 .n))) hps (by omega)).mono ?_)
 rintro _ w ⟨rfl,h⟩
 refine ⟨_,rfl,?_⟩
 refine st (nt rfl)<|xe<|nx<|?_
 rcases Bool.eq_false_or_eq_true (!(ys.getD k {}).e.done) with hd11 | hd11
 have hd12 : (ys.getD k {}).e.done=false:=(Bool.not_eq_true' _).mp hd11
 refine ct rfl hd11<|sq<|rg<|st (mv rfl)<|st (sg rfl)<|xe<|nx<|rt<|bt<|tr<|tr<|bt<|tr<|?_
 refine rr (res1 Tryz.results53 rfl)<|⟨_,(fun _=>⟨k,by omega,rfl,by rw [← getD_el (d:={}) (by omega)]; exact hd12⟩),rfl,(h.fr (.c r0 (.c r0 (.c r1 (.c r0 .n)))))⟩
 have hd13 : (ys.getD k {}).e.done=true:=(Bool.not_eq_false' _).mp hd11
 refine cf rfl hd11<|sk<|bn<|nx<|rg<|st (bw rfl rfl (wadd (c:=((k+1 : Nat) : Int)) (by omega) (by omega) (by omega)))<|st (mv rfl)<|xe<|nx<|?_
 exact ⟨(k+1),⟨rfl,rfl,rfl,trivial⟩,⟨h,by (try dsimp only); omega⟩,by (try dsimp only); omega⟩
 have hg14:=of_decide_eq_false hd9
 refine cf rfl hd9<|xt<|tx<|tx<|be<|nx<|sq<|rg<|st (sg rfl)<|xe<|nx<|rt<|?_
 refine rr (res1 Tryz.results53 rfl)<|⟨-1,(fun q=>absurd q (by decide)),rfl,(h.fr (.c r0 (.c r0 (.c r1 (.c r0 .n)))))⟩
 refine cf rfl hd2<|sk<|nx<|sq<|sq<|rg<|st (mv rfl)<|st (ln sl_87 rfl rfl)<|st (mv rfl)<|xe<|nx<|bk<|?_
 refine lp (α:=Nat) (fun ρ=>(.c 0 (.slice ppl ps.length cpl) (.c 22 (.int .i64 ((ps.length : Nat) : Int)) (.c 23 (.int .i64 ((ρ : Nat) : Int)) .n)))) (fun ρ w=>SH B w (tapE tb pk::exsA mb (ys.map pxo)::memA mb s::rsl 2 (.slice ppl ps.length cpl) ps.length (ps.flatMap ppC)::L)∧(ρ≤ps.length)) (fun ρ=>ps.length - ρ) 0 ⟨rfl,rfl,rfl,trivial⟩ ⟨h,Nat.zero_le _⟩ ?_
 rintro k w ⟨h,hk⟩
 refine sq<|rg<|st (bi rfl rfl rfl)<|xe<|nx<|sq<|?_
 rcases Bool.eq_false_or_eq_true (decide ((((k : Nat) : Int) : Int)<((ps.length : Nat) : Int))) with hd15 | hd15
 have hg16:=of_decide_eq_true hd15
 refine ct rfl hd15<|sk<|nx<|sq<|bk<|sq<|rg<|st (mv rfl)<|st (sg rfl)<|xe<|nx<|sq<|rg<|st (mv rfl)<|st (mv rfl)<|?_
 obtain ⟨b17,o18,rfl⟩:=h.fq a3 (by omega)
 refine st (ix (j:=k) sl_87 sz_56 rfl rfl (by omega))<|st (fa fo_56_1 rfl)<|st (ld one_53 rfl ((h.rr a3).x ppC_len (by decide) (by omega) (0,0) 1 _ rfl))<|cl (ca en_51 rfl) ((xdone_at (k:=k) (h.fr (.c r1 (.c r1 .n))) hps (by omega)).mono ?_)
 rintro _ w ⟨rfl,h⟩
 refine ⟨_,rfl,?_⟩
 refine st (nt rfl)<|xe<|nx<|?_
 rcases Bool.eq_false_or_eq_true (!(ys.getD k {}).e.done) with hd19 | hd19
 have hd20 : (ys.getD k {}).e.done=false:=(Bool.not_eq_true' _).mp hd19
 refine ct rfl hd19<|sq<|rg<|st (mv rfl)<|st (sg rfl)<|xe<|nx<|rt<|bt<|tr<|tr<|bt<|tr<|?_
 refine rr (res1 Tryz.results53 rfl)<|⟨_,(fun _=>⟨k,by omega,rfl,by rw [← getD_el (d:={}) (by omega)]; exact hd20⟩),rfl,(h.fr (.c r0 (.c r0 (.c r1 (.c r0 .n)))))⟩
 have hd21 : (ys.getD k {}).e.done=true:=(Bool.not_eq_false' _).mp hd19
 refine cf rfl hd19<|sk<|bn<|nx<|rg<|st (bw rfl rfl (wadd (c:=((k+1 : Nat) : Int)) (by omega) (by omega) (by omega)))<|st (mv rfl)<|xe<|nx<|?_
 exact ⟨(k+1),⟨rfl,rfl,rfl,trivial⟩,⟨(h.fr (.c r2 (.c r0 (.c r0 (.c r0 .n))))),by (try dsimp only); omega⟩,by (try dsimp only); omega⟩
 have hg22:=of_decide_eq_false hd15
 refine cf rfl hd15<|xt<|tx<|tx<|be<|nx<|sq<|rg<|st (sg rfl)<|xe<|nx<|rt<|?_
 refine rr (res1 Tryz.results53 rfl)<|⟨-1,(fun q=>absurd q (by decide)),rfl,(h.fr (.c r1 (.c r1 (.c r1 (.c r0 .n)))))⟩
theorem lrun_any (ab mb : Nat) (g : Ct.Ga) (s : Ct.St) (ys : List Ct.Px) (ps : List (Nat × Nat)) (pk : List Int) (ppl pp : Option Addr) (cpl cp : Nat) (h : SH B w (tksA (arSto ab) 400 ys::exsA mb (ys.map pxo)::memA mb s::(arSto ab).a s::rsl 2 (.slice ppl ps.length cpl) ps.length (ps.flatMap ppC)::rsl 1 (.slice pp pk.length cp) pk.length (pk.map (Value.int .i64))::L)) (hL : Ct.Lkd 0 g s ys) (hps : ys.map ppo=ps) (h0 : 0<ps.length) (h1 : ps.length≤100) :
  Calls Tryz.prog 16 #[.pointer (some ⟨ab,0,none⟩),.pointer (some ⟨mb,0,none⟩),.slice pp pk.length cp,.slice ppl ps.length cpl] w fun e w'=>e=.returned (.bool true)∧SH B w' L:=by
 refine bgn (args:=[_,_,_,_]) Tryz.func16 rfl Tryz.ntmps16 rfl ?_
 refine sq<|rg<|st (sg rfl)<|xe<|nx<|sq<|rg<|st (mv rfl)<|cl (ca en_14 rfl) ((new_e pk _ _ (h.fr (.c r5 .n))).mono ?_)
 rintro _ w ⟨tb,rfl,h⟩
 refine ⟨_,rfl,?_⟩
 refine st (sg rfl)<|xe<|nx<|sq<|sq<|rg<|st (sg rfl)<|xe<|nx<|bk<|?_
 refine lp (α:=Nat × Ct.Ga × Ct.St × List Ct.Px) (fun ρ=>(.c 0 (.pointer (some ⟨ab,0,none⟩)) (.c 1 (.pointer (some ⟨mb,0,none⟩)) (.c 3 (.slice ppl ps.length cpl) (.c 9 (.pointer (some ⟨tb,0,none⟩)) (.c 10 (.int .i64 ((ρ.1 : Nat) : Int)) .n)))))) (fun ρ w=>SH B w (tksA (arSto ab) (400 - ρ.1) ρ.2.2.2::exsA mb (ρ.2.2.2.map pxo)::memA mb ρ.2.2.1::(arSto ab).a ρ.2.2.1::rsl 2 (.slice ppl ps.length cpl) ps.length (ps.flatMap ppC)::tapE tb pk::L)∧(Ct.Lkd ρ.1 ρ.2.1 ρ.2.2.1 ρ.2.2.2)∧(ρ.2.2.2.map ppo=ps)∧(ρ.1≤400)) (fun ρ=>400 - ρ.1) (0,g,s,ys) ⟨rfl,rfl,rfl,rfl,rfl,trivial⟩ ⟨(h.fr (.c r1 (.c r1 (.c r1 (.c r1 (.c r1 (.c r0 .n))))))),hL,hps,(Nat.zero_le _)⟩ ?_
 rintro ⟨i,g,s,ys⟩ w ⟨h,hL,hps,hi⟩
 dsimp only at *
 refine sq<|sq<|rg<|st (mv rfl)<|st (bi rfl rfl rfl)<|xe<|nx<|?_
 rcases Bool.eq_false_or_eq_true (decide ((((i : Nat) : Int) : Int)<400)) with hd1 | hd1
 have hg2:=of_decide_eq_true hd1
 refine ct rfl hd1<|sk<|nx<|sq<|bk<|sq<|sq<|rg<|st (mv rfl)<|st (ln sl_87 rfl rfl)<|st (mv rfl)<|xe<|nx<|bk<|?_
 have hyl : ys.length=ps.length:=by rw [← hps,List.length_map]
 refine lp (α:=Nat) (fun ρ=>(.c 0 (.pointer (some ⟨ab,0,none⟩)) (.c 1 (.pointer (some ⟨mb,0,none⟩)) (.c 3 (.slice ppl ps.length cpl) (.c 9 (.pointer (some ⟨tb,0,none⟩)) (.c 10 (.int .i64 ((i : Nat) : Int)) (.c 20 (.slice ppl ps.length cpl) (.c 21 (.int .i64 ((ps.length : Nat) : Int)) (.c 22 (.int .i64 ((ρ : Nat) : Int)) .n))))))))) (fun ρ w=>SH B w (tksA (arSto ab) (400 - i) ys::exsA mb (ys.map pxo)::memA mb s::(arSto ab).a s::rsl 2 (.slice ppl ps.length cpl) ps.length (ps.flatMap ppC)::tapE tb pk::L)∧(ρ≤ps.length)) (fun ρ=>ps.length - ρ) 0 ⟨rfl,rfl,rfl,rfl,rfl,rfl,rfl,rfl,trivial⟩ ⟨h,Nat.zero_le _⟩ ?_
 rintro k w ⟨h,hk⟩
 refine sq<|rg<|st (bi rfl rfl rfl)<|xe<|nx<|sq<|?_
 rcases Bool.eq_false_or_eq_true (decide ((((k : Nat) : Int) : Int)<((ps.length : Nat) : Int))) with hd3 | hd3
 have hg4:=of_decide_eq_true hd3
 refine ct rfl hd3<|sk<|nx<|sq<|bk<|sq<|rg<|?_
 obtain ⟨b5,o6,rfl⟩:=h.fq a4 (by omega)
 refine st (ix (j:=k) sl_87 sz_56 rfl rfl (by omega))<|st (ldr rfl ((h.rr a4).x ppC_len (by decide) (by omega) (0,0)) row_56)<|sf (al h zc_56)<|?_
 rintro _ w ⟨b7,rfl,h⟩
 refine sf (so h rfl rfl rfl sz_56 rfl (.r (.r .d)) u0)<|?_
 rintro _ w h
 refine xe<|nx<|sq<|rg<|st (ldr rfl (rows_all (h.b a0)) row_56)<|cl (ca en_52 rfl) ((psame_at (k:=k) (h.fr (.c r1 (.c r1 (.c r1 .n)))) hL hps (by omega)).mono ?_)
 rintro _ w ⟨rfl,h⟩
 refine ⟨_,rfl,?_⟩
 refine st (nt rfl)<|xe<|nx<|cF rfl<|sk<|bn<|nx<|rg<|st (bw rfl rfl (wadd (c:=((k+1 : Nat) : Int)) (by omega) (by omega) (by omega)))<|st (mv rfl)<|xe<|nx<|?_
 exact ⟨(k+1),⟨rfl,rfl,rfl,rfl,rfl,rfl,rfl,rfl,trivial⟩,⟨(h.fr (.c r3 .n)).drop,by (try dsimp only); omega⟩,by (try dsimp only); omega⟩
 have hg8:=of_decide_eq_false hd3
 refine cf rfl hd3<|xt<|tx<|tx<|be<|nx<|?_
 refine sm (fun e w=>Sub 71 e (.c 0 (.pointer (some ⟨ab,0,none⟩)) (.c 1 (.pointer (some ⟨mb,0,none⟩)) (.c 3 (.slice ppl ps.length cpl) (.c 9 (.pointer (some ⟨tb,0,none⟩)) (.c 10 (.int .i64 ((i : Nat) : Int)) .n)))))∧SH B w (tksA (arSto ab) (400 - i) ys::exsA mb (ys.map pxo)::memA mb s::(arSto ab).a s::rsl 2 (.slice ppl ps.length cpl) ps.length (ps.flatMap ppC)::tapE tb pk::L)) ?_ ?_
 refine sq<|?_
 have hrz : s.size≤100000000000:=by have:=hL.size; omega
 have hfz:=nodes_small hL.fit hrz
 have h:=h.fr (.c r2 .n)
 obtain ⟨⟨pn,cn,pc,cc,zs⟩,hz0,h⟩:=h.mo
 have h : SH B w (bl mb ([.slice pn zs.length cn,.slice pc s.cells.length cc,.int .i64 ((s.gen : Nat) : Int),.int .i64 ((s.acc : Nat) : Int)]) 64::osl 77 14 (.slice pn zs.length cn) zs.length (zs.flatMap nodeP)::osl 36 1 (.slice pc s.cells.length cc) s.cells.length (s.cells.map (Value.int .i64))::nodesF zs::tksA (arSto ab) (400 - i) ys::exsA mb (ys.map pxo)::(arSto ab).a s::rsl 2 (.slice ppl ps.length cpl) ps.length (ps.flatMap ppC)::tapE tb pk::L):=h
 have hzs : zs.map Prod.fst=nodesOf s:=hz0
 clear hz0
 rcases Bool.eq_false_or_eq_true (decide ((((i : Nat) : Int) : Int)<60)) with hd9 | hd9
 have hg10:=of_decide_eq_true hd9
 refine drH [1,3,5,7,9,11,13,15,17,21,23,25,27,18,28,31,33] (by kernel_rfl) h (.c r0 .n) fun w h=>tk (fun W H=>mv rfl)<|tk (fun W H=>bi rfl rfl rfl)<|tk (fun W H=>mv rfl)<|gFs rfl rfl hd9<|gFs rfl rfl hd9<|gFs rfl rfl hd9<|tk (fun W H=>pT rfl hd9 rfl)<|tk (fun W H=>mv rfl)<|gTs rfl rfl rfl<|tk (fun W H=>mv rfl)<|gTs rfl rfl rfl<|tk (fun W H=>mv rfl)<|gTs rfl rfl rfl<|tk (fun W H=>nc rfl rfl)<|gTs rfl rfl rfl<|tk (fun W H=>fa fo_64_0 rfl)<|gTs rfl rfl rfl<|tk (fun W H=>ldr (cs:=[.slice pn zs.length cn,.slice pc s.cells.length cc,.int .i64 ((s.gen : Nat) : Int)]) rfl (rows_of (H.b a0) 0 rfl) row_62)<|gTs rfl rfl rfl<|cs (ca en_25 rfl) ((sstate_any ab s (h.fr (.c r6 .n)) hrz hL.fit).mono ?_)
 rintro _ w ⟨pnz12,cnz13,pcz14,ccz15,zz11,hzz16,rfl,h⟩
 refine ⟨_,rfl,h.hs (.c r4 .n),?_⟩
 refine gTs rfl rfl rfl<|cs (ca en_40 rfl) ((same_any s _ _ _ _ _ _ _ _ _ _ (h.fr (.c r0 (.c r0 (.c r0 (.c r2 (.c r2 (.c r2 .n))))))) hzz16 hzs hrz hfz).mono ?_)
 rintro _ w ⟨rfl,h⟩
 refine ⟨_,rfl,h.hs (.c r4 .n),?_⟩
 refine gTs rfl rfl rfl<|tk (fun W H=>nt rfl)<|tk (fun W H=>pT rfl rfl rfl)<|xz<|nx<|cF rfl<|sk<|nx<|?_
 have h:=SH.mi ⟨_,_,_,_,_⟩ hzs (h.fr (.c r4 (.c r0 (.c r0 (.c r0 .n)))))
 exact ⟨⟨rfl,rfl,rfl,rfl,rfl,trivial⟩,(h.fr (.c r2 (.c r2 (.c r0 (.c r0 (.c r0 (.c r0 .n)))))))⟩
 have hg17:=of_decide_eq_false hd9
 rcases Bool.eq_false_or_eq_true (((((i : Nat) : Int)).tmod (16) : Int)==0) with hd18 | hd18
 have hg19:=eq_of_beq hd18
 refine drH [1,3,5,7,9,11,13,15,17,21,23,25,27,18,28,31,33] (by kernel_rfl) h (.c r0 .n) fun w h=>tk (fun W H=>mv rfl)<|tk (fun W H=>bi rfl rfl rfl)<|tk (fun W H=>mv rfl)<|gTs rfl rfl hd9<|tk (fun W H=>mv rfl)<|gTs rfl rfl hd9<|tk (fun W H=>br rfl rfl (by omega))<|gTs rfl rfl hd9<|tk (fun W H=>bi rfl rfl rfl)<|tk (fun W H=>pF rfl hd9 rfl)<|tk (fun W H=>mv rfl)<|gTs rfl rfl hd18<|tk (fun W H=>mv rfl)<|gTs rfl rfl hd18<|tk (fun W H=>mv rfl)<|gTs rfl rfl hd18<|tk (fun W H=>nc rfl rfl)<|gTs rfl rfl hd18<|tk (fun W H=>fa fo_64_0 rfl)<|gTs rfl rfl hd18<|tk (fun W H=>ldr (cs:=[.slice pn zs.length cn,.slice pc s.cells.length cc,.int .i64 ((s.gen : Nat) : Int)]) rfl (rows_of (H.b a0) 0 rfl) row_62)<|gTs rfl rfl hd18<|cs (ca en_25 rfl) ((sstate_any ab s (h.fr (.c r6 .n)) hrz hL.fit).mono ?_)
 rintro _ w ⟨pnz21,cnz22,pcz23,ccz24,zz20,hzz25,rfl,h⟩
 refine ⟨_,rfl,h.hs (.c r4 .n),?_⟩
 refine gTs rfl rfl hd18<|cs (ca en_40 rfl) ((same_any s _ _ _ _ _ _ _ _ _ _ (h.fr (.c r0 (.c r0 (.c r0 (.c r2 (.c r2 (.c r2 .n))))))) hzz25 hzs hrz hfz).mono ?_)
 rintro _ w ⟨rfl,h⟩
 refine ⟨_,rfl,h.hs (.c r4 .n),?_⟩
 refine gTs rfl rfl hd18<|tk (fun W H=>nt rfl)<|tk (fun W H=>pT rfl hd18 rfl)<|xz<|nx<|cF rfl<|sk<|nx<|?_
 have h:=SH.mi ⟨_,_,_,_,_⟩ hzs (h.fr (.c r4 (.c r0 (.c r0 (.c r0 .n)))))
 exact ⟨⟨rfl,rfl,rfl,rfl,rfl,trivial⟩,(h.fr (.c r2 (.c r2 (.c r0 (.c r0 (.c r0 (.c r0 .n)))))))⟩
 have hg26:=ne_of_beq_false hd18
 refine drH [1,3,5,7,9,11,13,15,17,21,23,25,27,18,28,31,33] (by kernel_rfl) h .n fun w h=>tk (fun W H=>mv rfl)<|tk (fun W H=>bi rfl rfl rfl)<|tk (fun W H=>mv rfl)<|gTs rfl rfl hd9<|tk (fun W H=>mv rfl)<|gTs rfl rfl hd9<|tk (fun W H=>br rfl rfl (by omega))<|gTs rfl rfl hd9<|tk (fun W H=>bi rfl rfl rfl)<|tk (fun W H=>pF rfl hd9 rfl)<|tk (fun W H=>mv rfl)<|gFs rfl rfl hd18<|gFs rfl rfl hd18<|gFs rfl rfl hd18<|gFs rfl rfl hd18<|gFs rfl rfl hd18<|gFs rfl rfl hd18<|gFs rfl rfl hd18<|gFs rfl rfl hd18<|tk (fun W H=>pF rfl hd18 rfl)<|xz<|nx<|cF rfl<|sk<|nx<|?_
 have h:=SH.mi ⟨_,_,_,_,_⟩ hzs (h.fr (.c r0 (.c r0 (.c r0 (.c r0 .n)))))
 exact ⟨⟨rfl,rfl,rfl,rfl,rfl,trivial⟩,(h.fr (.c r1 (.c r1 (.c r0 (.c r0 (.c r0 (.c r0 .n)))))))⟩
 rintro e w ⟨hE,h⟩
 refine C.sub hE ?_
 clear hE e
 refine sq<|rg<|st (mv rfl)<|st (mv rfl)<|cl (ca en_53 rfl) ((lnext_any mb tb s ys ps pk ppl cpl (h.fr (.c r1 (.c r1 (.c r2 (.c r2 .n))))) hps h0 h1).mono ?_)
 rintro _ w ⟨kk27,hkk28,rfl,h⟩
 refine ⟨_,rfl,?_⟩
 refine st (sg rfl)<|xe<|nx<|sq<|sq<|rg<|st (mv rfl)<|st (bi rfl rfl rfl)<|xe<|nx<|?_
 rcases Bool.eq_false_or_eq_true (decide ((kk27 : Int)<0)) with hd29 | hd29
 have hg30:=of_decide_eq_true hd29
 refine ct rfl hd29<|xt<|tx<|bo rfl<|tx<|tx<|be<|nx<|sq<|?_
 have hrz : s.size≤100000000000:=by have:=hL.size; omega
 have hfz:=nodes_small hL.fit hrz
 have h:=h.fr (.c r1 .n)
 obtain ⟨⟨pn,cn,pc,cc,zs⟩,hz0,h⟩:=h.mo
 have h : SH B w (bl mb ([.slice pn zs.length cn,.slice pc s.cells.length cc,.int .i64 ((s.gen : Nat) : Int),.int .i64 ((s.acc : Nat) : Int)]) 64::osl 77 14 (.slice pn zs.length cn) zs.length (zs.flatMap nodeP)::osl 36 1 (.slice pc s.cells.length cc) s.cells.length (s.cells.map (Value.int .i64))::nodesF zs::exsA mb (ys.map pxo)::rsl 2 (.slice ppl ps.length cpl) ps.length (ps.flatMap ppC)::tapE tb pk::tksA (arSto ab) (400 - i) ys::(arSto ab).a s::L):=h
 have hzs : zs.map Prod.fst=nodesOf s:=hz0
 clear hz0
 refine drH [1,5,7,9,11,2,12,14] (by kernel_rfl) h (.c r0 .n) fun w h=>tk (fun W H=>mv rfl)<|tk (fun W H=>mv rfl)<|tk (fun W H=>nc rfl rfl)<|tk (fun W H=>fa fo_64_0 rfl)<|tk (fun W H=>ldr (cs:=[.slice pn zs.length cn,.slice pc s.cells.length cc,.int .i64 ((s.gen : Nat) : Int)]) rfl (rows_of (H.b a0) 0 rfl) row_62)<|cs (ca en_25 rfl) ((sstate_any ab s (h.fr (.c r8 .n)) hrz hL.fit).mono ?_)
 rintro _ w ⟨pnz32,cnz33,pcz34,ccz35,zz31,hzz36,rfl,h⟩
 refine ⟨_,rfl,h.hs (.c r4 .n),?_⟩
 refine cs (ca en_40 rfl) ((same_any s _ _ _ _ _ _ _ _ _ _ (h.fr (.c r0 (.c r0 (.c r0 (.c r2 (.c r2 (.c r2 .n))))))) hzz36 hzs hrz hfz).mono ?_)
 rintro _ w ⟨rfl,h⟩
 refine ⟨_,rfl,h.hs (.c r4 .n),?_⟩
 refine ef (sg rfl) (h.hs (.c r4 .n))<|xz<|nx<|rt<|?_
 refine rr (res1 Tryz.results16 rfl)<|⟨rfl,h.drop.drop.drop.drop.drop.drop.drop.drop.drop⟩
 have hg37:=of_decide_eq_false hd29
 refine cf rfl hd29<|sk<|nx<|sq<|?_
 obtain ⟨jj,hjj,hje,hdd⟩:=hkk28 (by have:=of_decide_eq_false hd29; omega)
 subst hje
 have hyl : ys.length=ps.length:=by rw [← hps,List.length_map]
 refine rg<|st (mv rfl)<|st (mv rfl)<|?_
 obtain ⟨b38,o39,rfl⟩:=h.fq a2 (by omega)
 refine st (ix (j:=jj) sl_87 sz_56 rfl rfl (by omega))<|st (fa fo_56_0 rfl)<|st (ld one_51 rfl ((h.rr a2).x ppC_len (by decide) (by omega) (0,0) 0 _ rfl))<|cl (ca en_54 rfl) ((lstepT (n:=400 - (i+1)) (k:=jj) (h.fr (.c r4 (.c r4 .n))) (by omega) hL (by omega) hps hjj hdd).mono ?_)
 rintro _ w ⟨rfl,h⟩
 refine ⟨_,rfl,?_⟩
 refine xe<|nx<|rg<|st (mv rfl)<|st (mv rfl)<|st (ix (j:=jj) sl_87 sz_56 rfl rfl (by omega))<|st (fa fo_56_1 rfl)<|st (ld one_53 rfl ((h.rr a4).x ppC_len (by decide) (by omega) (0,0) 1 _ rfl))<|cl (ca en_48 rfl) ((lstepX (k:=jj) (h.fr (.c r2 (.c r2 .n))) hL (by omega) hps hjj hdd).mono ?_)
 rintro _ w ⟨g2,hL2,rfl,h⟩
 refine ⟨_,rfl,?_⟩
 refine xe<|bn<|nx<|rg<|st (mv rfl)<|st (bw rfl rfl (wadd (c:=((i+1 : Nat) : Int)) (by omega) (by omega) (by omega)))<|st (sg rfl)<|xe<|nx<|?_
 exact ⟨((i+1),g2,((ys[jj].u).step s).1,(ys.set jj (ys[jj].next s))),⟨rfl,rfl,rfl,rfl,rfl,trivial⟩,⟨(h.fr (.c r2 (.c r0 (.c r0 (.c r0 (.c r0 (.c r0 .n))))))),hL2,(pps_set hps hjj),by (try dsimp only); omega⟩,by (try dsimp only); omega⟩
 have hg40:=of_decide_eq_false hd1
 refine cf rfl hd1<|xt<|tx<|tx<|be<|nx<|sq<|?_
 have hrz : s.size≤100000000000:=by have:=hL.size; omega
 have hfz:=nodes_small hL.fit hrz
 have h:=h.fr (.c r2 .n)
 obtain ⟨⟨pn,cn,pc,cc,zs⟩,hz0,h⟩:=h.mo
 have h : SH B w (bl mb ([.slice pn zs.length cn,.slice pc s.cells.length cc,.int .i64 ((s.gen : Nat) : Int),.int .i64 ((s.acc : Nat) : Int)]) 64::osl 77 14 (.slice pn zs.length cn) zs.length (zs.flatMap nodeP)::osl 36 1 (.slice pc s.cells.length cc) s.cells.length (s.cells.map (Value.int .i64))::nodesF zs::tksA (arSto ab) (400 - i) ys::exsA mb (ys.map pxo)::(arSto ab).a s::rsl 2 (.slice ppl ps.length cpl) ps.length (ps.flatMap ppC)::tapE tb pk::L):=h
 have hzs : zs.map Prod.fst=nodesOf s:=hz0
 clear hz0
 refine drH [1,5,7,9,11,2,12,14] (by kernel_rfl) h (.c r0 .n) fun w h=>tk (fun W H=>mv rfl)<|tk (fun W H=>mv rfl)<|tk (fun W H=>nc rfl rfl)<|tk (fun W H=>fa fo_64_0 rfl)<|tk (fun W H=>ldr (cs:=[.slice pn zs.length cn,.slice pc s.cells.length cc,.int .i64 ((s.gen : Nat) : Int)]) rfl (rows_of (H.b a0) 0 rfl) row_62)<|cs (ca en_25 rfl) ((sstate_any ab s (h.fr (.c r6 .n)) hrz hL.fit).mono ?_)
 rintro _ w ⟨pnz42,cnz43,pcz44,ccz45,zz41,hzz46,rfl,h⟩
 refine ⟨_,rfl,h.hs (.c r4 .n),?_⟩
 refine cs (ca en_40 rfl) ((same_any s _ _ _ _ _ _ _ _ _ _ (h.fr (.c r0 (.c r0 (.c r0 (.c r2 (.c r2 (.c r2 .n))))))) hzz46 hzs hrz hfz).mono ?_)
 rintro _ w ⟨rfl,h⟩
 refine ⟨_,rfl,h.hs (.c r4 .n),?_⟩
 refine ef (sg rfl) (h.hs (.c r4 .n))<|xz<|nx<|rt<|?_
 refine rr (res1 Tryz.results16 rfl)<|⟨rfl,h.drop.drop.drop.drop.drop.drop.drop.drop.drop⟩
end Go.Proofs.YtmliojdkmfhmmaaGreat
end
section
namespace Go.Ct
def awT : Trie:=(createS {}).2
def awC : Call:={ kind:=8,trie:=awT,key :=⟨#[97]⟩,value:=8 }
def awX : Nat→X
 | 0=>stepX (callI awC FU) 0 ⟨{ call:=awC },(createS {}).1⟩
 | i+1=>stepX (callI (awX i).e.call FU) 1 (awX i)
theorem awX_run : ∀ i,i<8→(awX i).e.done=false:=by decide +kernel
theorem awX_end : (awX 8).e.done=true:=by decide +kernel
def awM : St:=(awX 8).s
def awS : St:={ awM with acc:=0 }
def awP : Nat→St × I Result
 | 0=>(clearT awT 1001).head awS
 | i+1=>(awP i).2.step (awP i).1
theorem awP_run : ∀ i,i<9→(awP i).2.ended.isSome=false:=by decide +kernel
theorem awP_end : (awP 9).2.ended.isSome=true:=by decide +kernel
theorem awP_found : ((awP 9).2.ended.getD {}).found=true:=by decide +kernel
set_option maxRecDepth 100000
instance (n : Node) (L : Nat) : Decidable (n.Fit L):=by unfold Node.Fit Node.fits; infer_instance
theorem awP_fit : ∀ i,i<10→∀ n ∈ (awP i).1.added,n.Fit (awP i).1.added.length:=by decide +kernel
theorem awP_size : ∀ i,i<10→(awP i).1.size≤1000:=by decide +kernel
theorem awP_rm (i : Nat) (h : i<10) : Rm 101 (awP i).1 :=⟨awP_fit i h,by have:=awP_size i h; unfold roomMax; omega⟩
theorem awS_fit : ∀ n ∈ awS.added,n.Fit awS.added.length:=by decide +kernel
theorem awS_size : awS.size≤1000:=by decide +kernel
theorem awS_rm : Rm 60 awS :=⟨awS_fit,by have:=awS_size; unfold roomMax; omega⟩
theorem awM_proper : Proper awM :=⟨by decide +kernel,by decide +kernel,by decide +kernel,by decide +kernel,by decide +kernel,by decide +kernel,by decide +kernel⟩
theorem awP_proper : Proper (awP 9).1 :=⟨by decide +kernel,by decide +kernel,by decide +kernel,by decide +kernel,by decide +kernel,by decide +kernel,by decide +kernel⟩
theorem awP_none : ((awP 9).1.node 7).branches.length=0:=by decide +kernel
theorem awP_flat : Flat (awP 9).1 awT ((8 : Nat) : Int) 7 :=⟨by decide +kernel,by decide +kernel,by decide +kernel,by decide +kernel,by decide +kernel,fun k h=>by
 rw [awP_none] at h; exact absurd h (Nat.not_lt_zero k)⟩
theorem awP_bitmap : ((awP 9).1.node 7).bitmap<18446744073709551616:=by decide +kernel
theorem awM_size : awM.size≤1000:=by decide +kernel
theorem awM_fit : AllFit awM:=awS_fit
theorem awP_pairs : (flatPairs (awP 9).1 7).length=0:=by unfold flatPairs; rw [List.length_map]; exact awP_none
theorem awC_key : awC.key.size≤9223372036854775807:=by decide +kernel
end Go.Ct
end
section
namespace Go.Proofs.YtmliojdkmfhmmaaGreat
open Go.E
theorem fv_43_1 : fv Tryz.prog 43 1=some (1,1,false):=by kernel_rfl
theorem un_25 : Tryz.prog.underlying 25 = some (.pointer 128):=by kernel_rfl
theorem en_20 : Ents Tryz.prog 20:=enG Tryz.func20 rfl rfl
theorem en_15 : Ents Tryz.prog 15:=enG Tryz.func15 rfl rfl
end Go.Proofs.YtmliojdkmfhmmaaGreat
end
section
namespace Go.Proofs.YtmliojdkmfhmmaaGreat
open Go.RowKit Go.E
attribute [local irreducible] Go.E.wpL Go.E.wpS
variable {B w : World} {L : List As}
theorem tRun_any (S : Sto) (hM : ∀ w,Meth S.t S.x S.ab w) (n tb k z most : Nat) (p : Nat→Ct.St × Ct.I Ct.Result) (h : SH B w (taskA S n tb (p 0).2 k::S.a (p 0).1::L)) (hstep : ∀ i,p (i+1)=(p i).2.step (p i).1) (hrun : ∀ i,i<z→(p i).2.ended.isSome=false) (hend : (p z).2.ended.isSome=true) (hzm : z≤most) (hzn : z≤n) (hrm : ∀ i,i<z→Ct.Rm 101 (p i).1) (hk : k+z≤1000000000000) (hm : most≤1000000000000) :
  Calls Tryz.prog 20 #[.pointer (some ⟨tb,0,none⟩),.int .i64 ((most : Nat) : Int)] w fun e w'=>e=.returned (.int .i64 ((z : Nat) : Int))∧SH B w' (taskA S (n - z) tb (p z).2 (k+z)::S.a (p z).1::L):=by
 refine bgn (args:=[_,_]) Tryz.func20 rfl Tryz.ntmps20 rfl ?_
 refine sq<|rg<|st (sg rfl)<|xe<|nx<|sq<|rg<|st (sg rfl)<|xe<|nx<|sq<|bk<|?_
 refine lp (α:=Nat) (fun ρ=>(.c 0 (.pointer (some ⟨tb,0,none⟩)) (.c 1 (.int .i64 ((most : Nat) : Int)) (.c 5 (.int .i64 ((ρ : Nat) : Int)) .n)))) (fun ρ w=>SH B w (taskA S (n - ρ) tb (p ρ).2 (k+ρ)::S.a (p ρ).1::L)∧(ρ≤z)) (fun ρ=>z - ρ) 0 ⟨rfl,rfl,rfl,trivial⟩ ⟨h,Nat.zero_le _⟩ ?_
 rintro i w ⟨h,hi⟩
 refine sq<|sq<|?_
 have h:=h.fr (.c r0 .n)
 obtain ⟨c,h⟩:=SH.to h
 have hc:=cd_facts (h.fr (.c r1 .n))
 refine rg<|st (mv rfl)<|st (mv rfl)<|st (bi rfl rfl rfl)<|st (mv rfl)<|?_
 rcases Bool.eq_false_or_eq_true (decide ((((i : Nat) : Int) : Int)<((most : Nat) : Int))) with hd1 | hd1
 ·have hg2:=of_decide_eq_true hd1
  refine gT rfl rfl hd1<|st (mv rfl)<|gT rfl rfl hd1<|cl (ca en_22 rfl) ((tDone_b S tb c (k+i) false (h.fr (.c r0 .n))).mono ?_)
  rintro _ w ⟨rfl,h⟩
  refine ⟨_,rfl,?_⟩
  refine gT rfl rfl hd1<|st (nt rfl)<|st (pT rfl hd1 rfl)<|st (mv rfl)<|?_
  rcases Bool.eq_false_or_eq_true (!((c.kind : Int)==0)) with hd3 | hd3
  ·have hd4 : ((c.kind : Int)==0)=false:=(Bool.not_eq_true' _).mp hd3
   have hg5:=ne_of_beq_false hd4
   refine gT rfl rfl hd3<|st (mv rfl)<|gT rfl rfl hd3<|st (nc rfl rfl)<|gT rfl rfl hd3<|st (fa fo_125_3 rfl)<|gT rfl rfl hd3<|st (ld one_4 rfl (h.c a0 rfl))<|gT rfl rfl hd3<|st (nt rfl)<|st (pT rfl hd3 rfl)<|xe<|nx<|cT rfl<|sk<|nx<|bk<|sq<|?_
   have h:=SH.ti (h.fr (.c r0 (.c r0 .n)))
   have hiz : i<z:=by
    rcases Nat.lt_or_ge i z with hz | hz
    ·exact hz
    ·obtain rfl : i=z:=by omega
     have h1:=hc.1.symm.trans hd4
     rw [hend] at h1; cases h1
   rw [show n - i=n - (i+1)+1 by omega] at h
   refine rg<|st (mv rfl)<|cl (ca en_54 rfl) ((tStep_any S hM (n - (i+1)) tb (k+i) (p i).2 (p i).1 (h.fr (.c r0 (.c r0 .n))) (hrm i hiz) (by have:=hrun i hiz; simpa using this) (by omega)).mono ?_)
   rintro _ w ⟨rfl,h⟩
   rw [← hstep i] at h
   refine ⟨_,rfl,?_⟩
   refine xe<|nx<|rg<|st (mv rfl)<|st (bw rfl rfl (wadd (c:=((i+1 : Nat) : Int)) (by omega) (by omega) (by omega)))<|st (sg rfl)<|xe<|bn<|nx<|?_
   exact ⟨((i+1)),⟨rfl,rfl,rfl,trivial⟩,⟨h,hiz⟩,by (try dsimp only); omega⟩
  ·have hd6 : ((c.kind : Int)==0)=true:=(Bool.not_eq_false' _).mp hd3
   have hg7:=eq_of_beq hd6
   refine gF rfl rfl hd3<|gF rfl rfl hd3<|gF rfl rfl hd3<|gF rfl rfl hd3<|gF rfl rfl hd3<|st (pF rfl hd3 rfl)<|xe<|nx<|cF rfl<|xt<|tx<|tx<|be<|nx<|sq<|?_
   have h:=SH.ti (h.fr (.c r0 (.c r0 .n)))
   refine rg<|st (mv rfl)<|st (sg rfl)<|xe<|nx<|rt<|?_
   refine rr (res1 Tryz.results20 rfl)<|?_
   have hiz : i=z:=by
    rcases Nat.lt_or_ge i z with hz | hz
    ·have h1:=hc.1.symm.trans hd6
     rw [hrun i hz] at h1; cases h1
    ·omega
   subst hiz
   exact ⟨rfl,h⟩
 ·have hg8:=of_decide_eq_false hd1
  refine gF rfl rfl hd1<|gF rfl rfl hd1<|gF rfl rfl hd1<|st (pF rfl hd1 rfl)<|st (mv rfl)<|gF rfl rfl rfl<|gF rfl rfl rfl<|gF rfl rfl rfl<|gF rfl rfl rfl<|gF rfl rfl rfl<|st (pF rfl rfl rfl)<|xe<|nx<|cF rfl<|xt<|tx<|tx<|be<|nx<|sq<|?_
  have h:=SH.ti (h.fr (.c r0 (.c r0 .n)))
  refine rg<|st (mv rfl)<|st (sg rfl)<|xe<|nx<|rt<|?_
  refine rr (res1 Tryz.results20 rfl)<|?_
  have hiz : i=z:=by
   rcases Nat.lt_or_ge i z with hz | hz
   ·omega
   ·omega
  subst hiz
  exact ⟨rfl,h⟩
theorem aw_create (mb : Nat) (h : SH B w (memA mb {}::L)) : Calls Tryz.prog 39 #[.pointer (some ⟨mb,0,none⟩)] w fun e w'=>e=.returned (.agg (trieC Ct.awT).toArray)∧SH B w' (memA mb (Ct.createS {}).1::L):=create_any mb {} h (by decide)
theorem aw_clear (ab : Nat) (h : SH B w (arA ab Ct.awS::L)) : Calls Tryz.prog 17 #[(arSto ab).v,.agg (trieC Ct.awT).toArray] w fun e w'=>∃ tb,e=.returned (.pointer (some ⟨tb,0,none⟩))∧SH B w' (taskA (arSto ab) 1000 tb (Ct.awP 0).2 0::(arSto ab).a (Ct.awP 0).1::L):=by
 refine (p_clear_any (arSto ab) 1000 Ct.awT Ct.awS (toSto h) Ct.awS_rm).mono ?_
 rintro e w' ⟨tb,s',u,hq,rfl,h⟩
 have e0 : Ct.awP 0=(s',u):=hq
 rw [e0]
 exact ⟨tb,rfl,h⟩
theorem aw_run (ab tb : Nat) (h : SH B w (taskA (arSto ab) 1000 tb (Ct.awP 0).2 0::(arSto ab).a (Ct.awP 0).1::L)) : Calls Tryz.prog 20 #[.pointer (some ⟨tb,0,none⟩),.int .i64 20] w fun e w'=>e=.returned (.int .i64 9)∧SH B w' (taskA (arSto ab) 991 tb (Ct.awP 9).2 9::arA ab (Ct.awP 9).1::L):=by
 refine (tRun_any (arSto ab) (arMeth ab) 1000 tb 0 9 20 Ct.awP h (fun i=>rfl) Ct.awP_run Ct.awP_end (by decide) (by decide) (fun i hi=>Ct.awP_rm i (by omega)) (by decide) (by decide)).mono ?_
 rintro e w' ⟨rfl,h⟩
 exact ⟨rfl,(ofSto (h.fr (.c r1 .n))).fr (.c r1 .n)⟩
theorem aw_pairs (zs : List (Ct.Node × Lq)) (pn pc : Option Addr) (cn cc : Nat) (h : SH B w (osl 77 14 (.slice pn zs.length cn) zs.length (zs.flatMap nodeP)::osl 36 1 (.slice pc (Ct.awP 9).1.cells.length cc) (Ct.awP 9).1.cells.length ((Ct.awP 9).1.cells.map (Value.int .i64))::nodesF zs::L)) (hzs : zs.map Prod.fst=nodesOf (Ct.awP 9).1) :
  Calls Tryz.prog 24 #[.agg [.slice pn zs.length cn,.slice pc (Ct.awP 9).1.cells.length cc,.int .i64 (((Ct.awP 9).1.gen : Nat) : Int)].toArray,.agg (trieC Ct.awT).toArray] w fun e w'=>∃ pp cp,e=.returned (.tuple #[.slice pp 0 cp,.int .i64 0])∧SH B w' L:=by
 have hz : (Ct.awP 9).1.size≤100000000000:=by have:=Ct.awP_size 9 (by decide); omega
 have hc:=vContents_flat (Ct.awP 9).1 zs pn pc cn cc Ct.awT 8 7 h hzs hz Ct.awP_proper (nodes_small (Ct.awP_fit 9 (by decide)) hz) Ct.awP_flat Ct.awP_bitmap (by rw [Ct.awP_none]; decide)
 refine hc.mono ?_
 rintro e w' ⟨pp,cp,rfl,h⟩
 rw [Ct.awP_pairs]
 exact ⟨pp,cp,rfl,h.drop⟩
theorem awake_any  (h : SH B w (L)) :
  Calls Tryz.prog 15 #[] w fun e w'=>e=.returned (.bool true)∧SH B w' L:=by
 obtain ⟨g,hW⟩:=Ct.wld0
 have hcok : Ct.CallOk g Ct.awC:=hW.callOk (c:=Ct.awC) (by decide) (by decide) (List.mem_singleton.2 rfl) (fun _=>rfl)
 have hst:=Ct.start_ready (c:=Ct.awC) hW.fit (by decide)
 refine bgn (args:=[]) Tryz.func15 rfl Tryz.ntmps15 rfl ?_
 refine sq<|rg<|st (sg rfl)<|xe<|nx<|sq<|rg<|cl (ca en_43 rfl) ((new_any (h.fr .n)).mono ?_)
 rintro _ w ⟨mb,rfl,h⟩
 refine ⟨_,rfl,?_⟩
 refine st (sg rfl)<|xe<|nx<|sq<|rg<|st (mv rfl)<|cl (ca en_39 rfl) ((aw_create mb (h.fr (.c r0 .n))).mono ?_)
 rintro _ w ⟨rfl,h⟩
 refine ⟨_,rfl,?_⟩
 refine sf (al h zc_35)<|?_
 rintro _ w ⟨b1,rfl,h⟩
 refine sf (so h rfl rfl rfl sz_35 rfl (.r (.r .d)) u0)<|?_
 rintro _ w h
 refine xe<|nx<|sq<|rg<|st (mv rfl)<|st (ldr rfl (rows_all (h.b a0)) row_35)<|st (bd [.int .i64 8,.int .i64 Ct.awT.root,.bool Ct.awT.readOnly,.int .i64 0,.int .i64 0,.int .i64 0,.int .i64 0,.int .u64 0,.int .u64 0,.string (⟨#[97]⟩),.int .u64 8,.int .u64 0,.int .i64 0,.bool false,.bool false,.slice none 0 0,.slice none 0 0,.int .i64 0,.bool false,.int .u64 0,.string .empty,.int .i64 0,.int .i64 0,.int .i64 0,.bool false] bd_45 rfl (by kernel_rfl))<|cl (ca en_18 rfl) ((start_any mb (Ct.createS {}).1 Ct.awC Ct.FU (h.fr (.c r1 .n)) hst.1 hst.2 (by decide) (by decide) Ct.awC_key (by decide) (by decide)).mono ?_)
 rintro _ w ⟨xb,rfl,h,k⟩
 have hl:=Ct.Lone.start hW.gw hW.typ hW.fit hcok (by decide) Ct.awC_key k
 refine ⟨_,rfl,?_⟩
 refine st (sg rfl)<|xe<|nx<|sq<|bk<|?_
 refine lp (α:=Nat) (fun ρ=>(.c 1 (.pointer (some ⟨mb,0,none⟩)) (.c 2 (.pointer (some ⟨b1,0,none⟩)) (.c 3 (.pointer (some ⟨xb,0,none⟩)) .n)))) (fun ρ w=>SH B w (XA xb mb (Ct.awX ρ)::bl b1 (trieC Ct.awT) 35::L)∧(ρ≤8)∧(Ct.Lone g (Ct.createS {}).1.size ρ (Ct.awX ρ))) (fun ρ=>8 - ρ) 0 ⟨rfl,rfl,rfl,trivial⟩ ⟨h,(Nat.zero_le _),hl⟩ ?_
 rintro i w ⟨h,hi,hl⟩
 refine sq<|sq<|rg<|st (mv rfl)<|cl (ca en_51 rfl) ((done_any xb mb (Ct.awX i) (h.fr (.c r0 .n))).mono ?_)
 rintro _ w ⟨rfl,h⟩
 refine ⟨_,rfl,?_⟩
 refine st (nt rfl)<|xe<|nx<|?_
 rcases Bool.eq_false_or_eq_true (!(Ct.awX i).e.done) with hd2 | hd2
 ·have hd3 : (Ct.awX i).e.done=false:=(Bool.not_eq_true' _).mp hd2
  refine ct rfl hd2<|sk<|nx<|bk<|?_
  have hi8 : i+1≤8:=by
   rcases Nat.lt_or_ge i 8 with hz | hz
   ·exact hz
   ·obtain rfl : i=8:=by omega
    have h1:=hd3
    rw [Ct.awX_end] at h1; cases h1
  have h1 : (Ct.createS {}).1.size≤1000:=by decide
  have hrd : (Ct.createS {}).1.size+199 * i+120≤Ct.room:=by unfold Ct.room; omega
  refine rg<|st (mv rfl)<|cl (ca en_48 rfl) ((step_n xb mb (Ct.awX i) Ct.FU (h.fr (.c r0 .n)) hd3 (hl.ready hrd).1 (hl.ready hrd).2 (by decide) hl.call.1 hl.call.2.1 hl.call.2.2.1 hl.call.2.2.2).mono ?_)
  rintro _ w ⟨rfl,h,k⟩
  refine ⟨_,rfl,?_⟩
  refine xe<|bn<|nx<|?_
  exact ⟨((i+1)),⟨rfl,rfl,rfl,trivial⟩,⟨h,hi8,(hl.step hd3 (by unfold Ct.most; omega) k)⟩,by (try dsimp only); omega⟩
 ·have hd4 : (Ct.awX i).e.done=true:=(Bool.not_eq_false' _).mp hd2
  refine cf rfl hd2<|xt<|tx<|tx<|be<|nx<|sq<|?_
  have hi8 : i=8:=by
   rcases Nat.lt_or_ge i 8 with hz | hz
   ·have h1:=hd4
    rw [Ct.awX_run i hz] at h1; cases h1
   ·omega
  subst hi8
  have h:=SH.exDrop (h.fr (.c r0 .n))
  have h : SH B w (memA mb Ct.awM::bl b1 (trieC Ct.awT) 35::L):=h
  obtain ⟨⟨pn,cn,pc,cc,zs⟩,hz0,h⟩:=h.mo
  have h : SH B w (bl mb ([.slice pn zs.length cn,.slice pc Ct.awM.cells.length cc,.int .i64 ((Ct.awM.gen : Nat) : Int),.int .i64 ((Ct.awM.acc : Nat) : Int)]) 64::osl 77 14 (.slice pn zs.length cn) zs.length (zs.flatMap nodeP)::osl 36 1 (.slice pc Ct.awM.cells.length cc) Ct.awM.cells.length (Ct.awM.cells.map (Value.int .i64))::nodesF zs::bl b1 (trieC Ct.awT) 35::L):=h
  have hzs : zs.map Prod.fst=nodesOf Ct.awM:=hz0
  clear hz0
  have hsz : Ct.awM.size≤100000000000:=by have:=Ct.awM_size; omega
  refine rg<|st (mv rfl)<|st (nc rfl rfl)<|st (fa fo_64_0 rfl)<|st (ldr (cs:=[.slice pn zs.length cn,.slice pc Ct.awM.cells.length cc,.int .i64 ((Ct.awM.gen : Nat) : Int)]) rfl (rows_of (h.b a0) 0 rfl) row_62)<|cl (ca en_49 rfl) ((of_any Ct.awM zs pn pc cn cc (h.fr (.c r1 (.c r1 (.c r1 .n)))) hzs Ct.awM_proper (nodes_small Ct.awM_fit hsz) hsz).mono ?_)
  rintro _ w ⟨ab,rfl,h⟩
  refine ⟨_,rfl,?_⟩
  refine st (mv rfl)<|st (xr rfl rfl)<|st (xr rfl rfl)<|st (sg rfl)<|st (sg rfl)<|xe<|nx<|sq<|sq<|rg<|st (mv rfl)<|st (bpe un_25 rfl rfl)<|xe<|nx<|cF rfl<|sk<|nx<|sq<|rg<|st (mv rfl)<|st (mi un_25 rfl rfl)<|st (ldr rfl (rows_all (h.b a5)) row_35)<|cl (ca en_17 rfl) ((aw_clear ab (h.fr (.c r0 .n))).mono ?_)
  rintro _ w ⟨tb,rfl,h⟩
  refine ⟨_,rfl,?_⟩
  refine st (sg rfl)<|xe<|nx<|sq<|sq<|rg<|st (mv rfl)<|st (bpe un_51 rfl rfl)<|st (mv rfl)<|gT rfl rfl rfl<|st (mv rfl)<|gT rfl rfl rfl<|cl (ca en_20 rfl) ((aw_run ab tb (h.fr (.c r0 (.c r0 .n)))).mono ?_)
  rintro _ w ⟨rfl,h⟩
  refine ⟨_,rfl,?_⟩
  refine gT rfl rfl rfl<|st (bi rfl rfl rfl)<|st (pF rfl rfl rfl)<|st (mv rfl)<|gT rfl rfl rfl<|st (mv rfl)<|gT rfl rfl rfl<|cl (ca en_28 rfl) ((tResult_any (arSto ab) 991 tb 9 (Ct.awP 9).2 (h.fr (.c r0 .n))).mono ?_)
  rintro _ w ⟨rfl,h⟩
  refine ⟨_,rfl,?_⟩
  refine gT rfl rfl rfl<|st (fd fv_43_1 rfl rfl)<|gT rfl rfl rfl<|st (nt rfl)<|st (pF rfl rfl rfl)<|xe<|nx<|cf rfl (notT Ct.awP_found)<|sk<|nx<|sq<|drH [1,5,2,6,9,11,13,14,16] (by kernel_rfl) h (.c r6 .n) fun w h=>tk (fun W H=>mv rfl)<|tk (fun W H=>ldr rfl (rows_all (H.b a0)) row_35)<|cs (ca en_25 rfl) ((state_any ab (Ct.awP 9).1 (h.fr (.c r1 .n)) (by have:=Ct.awP_size 9 (by decide); omega) (Ct.awP_fit 9 (by decide))).mono ?_)
  rintro _ w ⟨pnz,cnz,pcz,ccz,ys,hys,rfl,h⟩
  refine ⟨_,rfl,h.hs (.c r9 .n),?_⟩
  refine cs (ca en_24 rfl) ((aw_pairs ys pnz pcz cnz ccz (h.fr (.c r0 (.c r0 (.c r0 .n)))) hys).mono ?_)
  rintro _ w ⟨ppz,cpz,rfl,h⟩
  refine ⟨_,rfl,h.hs (.c r6 .n),?_⟩
  refine tk (fun W H=>mv rfl)<|tk (fun W H=>xr rfl rfl)<|tk (fun W H=>xr rfl rfl)<|ef (sg rfl) (h.hs (.c r6 .n))<|ef (sg rfl) (h.hs (.c r6 .n))<|xz<|nx<|sq<|rg<|st (mv rfl)<|st (bi rfl rfl rfl)<|st (mv rfl)<|gT rfl rfl rfl<|st (mv rfl)<|gT rfl rfl rfl<|st (ln sl_38 rfl rfl)<|gT rfl rfl rfl<|st (bi rfl rfl rfl)<|st (pT rfl rfl rfl)<|st (sg rfl)<|xe<|nx<|rt<|?_
  refine rr (res1 Tryz.results15 rfl)<|⟨rfl,h.drop.drop.drop.drop.drop.drop.drop⟩
end Go.Proofs.YtmliojdkmfhmmaaGreat
end
section
namespace Go.Proofs.YtmliojdkmfhmmaaGreat
open Go.E
theorem bd_56 : bdn Tryz.prog 56 = some ([.pointer none,.pointer none],[(0,1),(1,1)]):=by kernel_rfl
theorem ss_56 : sizes Tryz.prog 56 = some (.agg [.pointer none,.pointer none].toArray,2,16):=by kernel_rfl
end Go.Proofs.YtmliojdkmfhmmaaGreat
end
