/- Parts of a proof: Ty, Tr. -/
import Derived.Test.YtjlgchdekhmnnaaGreatDoorProg
import Derived.Test.YtjlgchdekhmnnaaGreatDoorTS04
import Derived.Laws.Bits64
set_option linter.unusedVariables false
set_option linter.unusedSimpArgs false
section
namespace Go.Proofs.YtjlgchdekhmnnaaGreatDoor
open Go.E
theorem bd_110 : bdn Tryz.prog 110 = some ([.slice none 0 0, .int .i64 0], [(0, 1), (1, 1)]) := by kernel_rfl
theorem bd_75 : bdn Tryz.prog 75 = some ([.int .i64 0, .int .i64 0, .int .i64 0, .int .i64 0, .int .i64 0, .int .i64 0, .bool false], [(0, 1), (1, 4), (5, 1), (6, 1)]) := by kernel_rfl
theorem eq_75 : eqf Tryz.prog 75 = some [.i .i64, .i .i64, .i .i64, .i .i64, .i .i64, .i .i64, .b] := by kernel_rfl
theorem fo_110_0 : fo Tryz.prog 110 0 = some 0 := by kernel_rfl
theorem fo_110_1 : fo Tryz.prog 110 1 = some 1 := by kernel_rfl
theorem fo_73_0 : fo Tryz.prog 73 0 = some 0 := by kernel_rfl
theorem fo_73_1 : fo Tryz.prog 73 1 = some 1 := by kernel_rfl
theorem fo_73_2 : fo Tryz.prog 73 2 = some 2 := by kernel_rfl
theorem fo_73_3 : fo Tryz.prog 73 3 = some 3 := by kernel_rfl
theorem fo_75_0 : fo Tryz.prog 75 0 = some 0 := by kernel_rfl
theorem fo_75_1 : fo Tryz.prog 75 1 = some 1 := by kernel_rfl
theorem fo_75_2 : fo Tryz.prog 75 2 = some 5 := by kernel_rfl
theorem fo_75_3 : fo Tryz.prog 75 3 = some 6 := by kernel_rfl
theorem one_22 : oneC Tryz.prog 22 = true := by kernel_rfl
theorem one_3 : oneC Tryz.prog 3 = true := by kernel_rfl
theorem one_40 : oneC Tryz.prog 40 = true := by kernel_rfl
theorem one_41 : oneC Tryz.prog 41 = true := by kernel_rfl
theorem row_73 : rowN Tryz.prog 73 = some 4 := by kernel_rfl
theorem row_75 : rowN Tryz.prog 75 = some 7 := by kernel_rfl
theorem sl_22 : Tryz.prog.underlying 22 = some (.slice 3) := by kernel_rfl
theorem sl_56 : Tryz.prog.underlying 56 = some (.slice 40) := by kernel_rfl
theorem sl_69 : Tryz.prog.underlying 69 = some (.slice 75) := by kernel_rfl
theorem ss_40 : sizes Tryz.prog 40 = some (.int .i64 0, 1, 8) := by kernel_rfl
theorem sz_3 : (Tryz.prog.info? 3).map (·.size) = some 1 := by kernel_rfl
theorem sz_4 : (Tryz.prog.info? 4).map (·.size) = some 1 := by kernel_rfl
theorem sz_40 : (Tryz.prog.info? 40).map (·.size) = some 1 := by kernel_rfl
theorem sz_75 : (Tryz.prog.info? 75).map (·.size) = some 7 := by kernel_rfl
theorem un_27 : Tryz.prog.underlying 27 = some (.int .u64) := by kernel_rfl
theorem un_3 : Tryz.prog.underlying 3 = some (.int .i64) := by kernel_rfl
theorem zc_75 : zc Tryz.prog 75 = some [.int .i64 0, .int .i64 0, .int .i64 0, .int .i64 0, .int .i64 0, .int .i64 0, .bool false] := by kernel_rfl
theorem en_55 : Ents Tryz.prog 55 := enG Tryz.func55 rfl rfl
theorem en_25 : Ents Tryz.prog 25 := enG Tryz.func25 rfl rfl
theorem en_38 : Ents Tryz.prog 38 := enG Tryz.func38 rfl rfl
theorem en_13 : Ents Tryz.prog 13 := enG Tryz.func13 rfl rfl
theorem en_95 : Ents Tryz.prog 95 := enG Tryz.func95 rfl rfl
theorem en_64 : Ents Tryz.prog 64 := enG Tryz.func64 rfl rfl
theorem en_94 : Ents Tryz.prog 94 := enG Tryz.func94 rfl rfl
theorem en_65 : Ents Tryz.prog 65 := enG Tryz.func65 rfl rfl
end Go.Proofs.YtjlgchdekhmnnaaGreatDoor
end
section
namespace Go.Proofs.YtjlgchdekhmnnaaGreatDoor
open Go.RowKit Go.E
def acC (a : Ct.Acc) : List Value := [.int .i64 a.kind, .int .i64 a.cell, .int .i64 a.old, .int .i64 a.new]
def entC (e : Ct.Ent) : List Value := [.int .i64 e.thread, .int .i64 e.acc.kind, .int .i64 e.acc.cell, .int .i64 e.acc.old, .int .i64 e.acc.new, .int .i64 e.loaded, .bool e.swapped]
theorem entC_len (e : Ct.Ent) : (entC e).length = 7 := rfl
theorem entC_one (e : Ct.Ent) : (entC e).all Value.oneCell' = true := rfl
def Mod (v m : Int) : Int := v % 18446744073709551616 % m
theorem Mod_lt (v m : Int) (h : 0 < m) : 0 ≤ Mod v m ∧ Mod v m < m := ⟨Int.emod_nonneg _ (by omega), Int.emod_lt_of_pos _ h⟩
theorem wrapu (v : Int) : IntKind.u64.wrap v = v % 18446744073709551616 := by rw [IntKind.wrap_u64]
theorem wrapm {m : Int} (h0 : 0 < m) (h1 : m ≤ 9223372036854775807) : IntKind.u64.wrap m = m := by rw [IntKind.wrap_u64]; omega
theorem modT (v m : Int) (h0 : 0 < m) : (v % 18446744073709551616).tmod m = Mod v m := by
 unfold Mod; rw [Int.tmod_eq_emod_of_nonneg (by omega)]
def tapeA (b : Nat) (l : List Int) (i : Nat) : As := ex fun pc : Option Addr × Nat => se [bl b [.slice pc.1 l.length pc.2, .int .i64 ((i : Nat) : Int)] 110, rsl 1 (.slice pc.1 l.length pc.2) l.length (l.map (Value.int .i64))]
def nextV (l : List Int) (i : Nat) (n : Int) : Int := if i < l.length then Mod (l.getD i 0) n else 0
def nextI (l : List Int) (i : Nat) : Nat := if i < l.length then i + 1 else i
set_option maxRecDepth 100000 in
theorem Mod_any {w : World} (v m : Int) (h0 : 0 < m) (h1 : m ≤ 9223372036854775807) :
  Calls Tryz.prog 38 #[.int .i64 v, .int .i64 m] w fun e w' => e = .returned (.int .i64 (Mod v m)) ∧ w' = w := by
 refine bgn (args := [_, _]) Tryz.func38 rfl Tryz.ntmps38 rfl ?_
 refine sq <| rg <| st (sg rfl) <| xe <| nx <| sq <| rg <| st (mv rfl) <| st (cvw un_3 un_27 rfl (wrapu v)) <| st (mv rfl) <| st (cvw un_3 un_27 rfl (wrapm h0 h1)) <| st (brw rfl rfl (by omega) (modT v m h0)) <| st (cvw un_27 un_3 rfl (w64 (by have := Mod_lt v m h0; omega) (by have := Mod_lt v m h0; omega))) <| st (sg rfl) <| xe <| nx <| rt <| ?_
 refine rr (res1 Tryz.results38 rfl) <| ⟨rfl, rfl⟩
set_option maxRecDepth 100000 in
theorem Next_any {B w : World} {L : List As} (b : Nat) (l : List Int) (i : Nat) (n : Int) (h0 : 0 < n) (h1 : n ≤ 9223372036854775807) (h : SH B w (tapeA b l i :: L)) :
  Calls Tryz.prog 25 #[.pointer (some ⟨b, 0, none⟩), .int .i64 n] w fun e w' => e = .returned (.int .i64 (nextV l i n)) ∧ SH B w' (tapeA b l (nextI l i) :: L) := by
 obtain ⟨⟨p, c⟩, h⟩ := h.ex
 have h := h.se
 have hlm := (h.rl a1).2
 unfold maxLen at hlm
 refine bgn (args := [_, _]) Tryz.func25 rfl Tryz.ntmps25 rfl ?_
 refine sq <| rg <| st (sg rfl) <| xe <| nx <| sq <| sq <| drH [1, 3, 5, 7, 9, 11, 13, 15, 17, 19] (by kernel_rfl) h (.c r0 .n) fun w h => tk (fun W H => mv rfl) <| tk (fun W H => nc rfl rfl) <| tk (fun W H => fa fo_110_1 rfl) <| tk (fun W H => ld one_3 rfl (H.c a0 rfl)) <| tk (fun W H => mv rfl) <| tk (fun W H => nc rfl rfl) <| tk (fun W H => fa fo_110_0 rfl) <| tk (fun W H => ld one_22 rfl (H.c a0 rfl)) <| tk (fun W H => ln sl_22 rfl rfl) <| tk (fun W H => bi rfl rfl rfl) <| xz <| nx <| ?_
 rcases Bool.eq_false_or_eq_true (decide ((((i : Nat) : Int) : Int) ≥ ((l.length : Nat) : Int))) with hd1 | hd1
 ·have hg2 := of_decide_eq_true hd1
  refine ct rfl hd1 <| sq <| rg <| st (sg rfl) <| xe <| nx <| rt <| tr <| ?_
  refine rr (res1 Tryz.results25 rfl) <| ⟨by rw [nextV, if_neg (by omega)], by rw [nextI, if_neg (by omega)]; exact SH.in_ (_, _) (SH.is (l := [_, _]) (h))⟩
 ·have hg3 := of_decide_eq_false hd1
  refine cf rfl hd1 <| sk <| nx <| sq <| rg <| st (mv rfl) <| st (nc rfl rfl) <| st (fa fo_110_1 rfl) <| st (ld one_3 rfl (h.c a0 rfl)) <| st (bw rfl rfl (wadd (c := ((i + 1 : Nat) : Int)) (by omega) (by omega) (by omega))) <| st (nc rfl rfl) <| st (fa fo_110_1 rfl) <| sf (so h rfl rfl rfl sz_3 rfl (.s (.r .d)) u0) <| ?_
  rintro _ w h
  refine xe <| nx <| sq <| ?_
  obtain ⟨b4, o5, rfl⟩ := h.fq a1 (by omega)
  refine drH [1, 3, 5, 7, 9, 11, 13, 15, 17, 19, 21, 23, 24, 26] (by kernel_rfl) h (.c r0 (.c r0 .n)) fun w h => tk (fun W H => mv rfl) <| tk (fun W H => nc rfl rfl) <| tk (fun W H => fa fo_110_0 rfl) <| tk (fun W H => ld one_22 rfl (H.c a0 rfl)) <| tk (fun W H => mv rfl) <| tk (fun W H => nc rfl rfl) <| tk (fun W H => fa fo_110_1 rfl) <| tk (fun W H => ld one_3 rfl (H.c a0 rfl)) <| tk (fun W H => bw rfl rfl (wsub (c := ((i : Nat) : Int)) (by omega) (by omega) (by omega))) <| tk (fun W H => ix (j := i) sl_22 sz_3 rfl rfl (by omega)) <| tk (fun W H => ld one_3 rfl ((H.rr a1).i (by omega))) <| tk (fun W H => mv rfl) <| cs (ca en_38 rfl) ((Mod_any (l.getD i 0) n h0 h1).mono ?_)
  rintro _ _ ⟨rfl, rfl⟩
  refine ⟨_, rfl, h.hs (.c r0 (.c r0 .n)), ?_⟩
  refine ef (sg rfl) (h.hs (.c r0 (.c r0 .n))) <| xz <| nx <| rt <| ?_
  refine rr (res1 Tryz.results25 rfl) <| ⟨by rw [nextV, if_pos (by omega)], by rw [nextI, if_pos (by omega)]; exact SH.in_ (_, _) (SH.is (l := [_, _]) (h))⟩
set_option maxRecDepth 100000 in
theorem Left_any {B w : World} {L : List As} (b : Nat) (l : List Int) (i : Nat) (h : SH B w (tapeA b l i :: L)) :
  Calls Tryz.prog 55 #[.pointer (some ⟨b, 0, none⟩)] w fun e w' => e = .returned (.bool (decide ((i : Int) < l.length))) ∧ SH B w' (tapeA b l i :: L) := by
 obtain ⟨⟨p, c⟩, h⟩ := h.ex
 have h := h.se
 have hlm := (h.rl a1).2
 unfold maxLen at hlm
 refine bgn (args := [_]) Tryz.func55 rfl Tryz.ntmps55 rfl ?_
 refine sq <| rg <| st (sg rfl) <| xe <| nx <| sq <| drH [1, 3, 5, 7, 9, 11, 13, 15, 17, 19, 20] (by kernel_rfl) h (.c r0 .n) fun w h => tk (fun W H => mv rfl) <| tk (fun W H => nc rfl rfl) <| tk (fun W H => fa fo_110_1 rfl) <| tk (fun W H => ld one_3 rfl (H.c a0 rfl)) <| tk (fun W H => mv rfl) <| tk (fun W H => nc rfl rfl) <| tk (fun W H => fa fo_110_0 rfl) <| tk (fun W H => ld one_22 rfl (H.c a0 rfl)) <| tk (fun W H => ln sl_22 rfl rfl) <| tk (fun W H => bi rfl rfl rfl) <| ef (sg rfl) (h.hs (.c r0 .n)) <| xz <| nx <| rt <| ?_
 refine rr (res1 Tryz.results55 rfl) <| ⟨rfl, SH.in_ (_, _) (SH.is (l := [_, _]) (h))⟩
set_option maxRecDepth 100000 in
theorem New_any {B w : World} {L : List As} (l : List Int) (p : Option Addr) (c : Nat) (h : SH B w (rsl 1 (.slice p l.length c) l.length (l.map (Value.int .i64)) :: L)) :
  Calls Tryz.prog 13 #[.slice p l.length c] w fun e w' => ∃ b, e = .returned (.pointer (some ⟨b, 0, none⟩)) ∧ SH B w' (tapeA b l 0 :: L) := by
 refine bgn (args := [_]) Tryz.func13 rfl Tryz.ntmps13 rfl ?_
 refine sq <| rg <| st (sg rfl) <| xe <| nx <| sq <| rg <| st (mv rfl) <| st (bd [.slice p l.length c, .int .i64 0] bd_110 rfl (by kernel_rfl)) <| sf (bx h rfl rfl) <| ?_
 rintro _ w ⟨b1, rfl, h⟩
 refine st (sg rfl) <| xe <| nx <| rt <| ?_
 refine rr (res1 Tryz.results13 rfl) <| ⟨_, rfl, SH.in_ (p, c) (SH.is (l := [_, _]) (h))⟩
set_option maxRecDepth 100000 in
theorem exists_any {w : World} (p : Option Addr) (n cap : Nat) (c : Int) :
  Calls Tryz.prog 94 #[.slice p n cap, .int .i64 c] w fun e w' => e = .returned (.bool (Ct.existsC n c)) ∧ w' = w := by
 refine bgn (args := [_, _]) Tryz.func94 rfl Tryz.ntmps94 rfl ?_
 refine sq <| rg <| st (sg rfl) <| xe <| nx <| sq <| rg <| st (mv rfl) <| st (bi rfl rfl rfl) <| st (mv rfl) <| ?_
 rcases Bool.eq_false_or_eq_true (decide ((c : Int) ≥ 1)) with hd1 | hd1
 ·have hg2 := of_decide_eq_true hd1
  refine gT rfl rfl hd1 <| st (mv rfl) <| gT rfl rfl hd1 <| st (mv rfl) <| gT rfl rfl hd1 <| st (ln sl_56 rfl rfl) <| gT rfl rfl hd1 <| st (bi rfl rfl rfl) <| st (pT rfl hd1 rfl) <| st (sg rfl) <| xe <| nx <| rt <| ?_
  refine rr (res1 Tryz.results94 rfl) <| ⟨by unfold Ct.existsC; simp [hd1], rfl⟩
 ·have hg3 := of_decide_eq_false hd1
  refine gF rfl rfl hd1 <| gF rfl rfl hd1 <| gF rfl rfl hd1 <| gF rfl rfl hd1 <| st (pF rfl hd1 rfl) <| st (sg rfl) <| xe <| nx <| rt <| ?_
  refine rr (res1 Tryz.results94 rfl) <| ⟨by unfold Ct.existsC; simp [hd1], rfl⟩
set_option maxRecDepth 100000 in
theorem entry_0 {B w : World} {L : List As} (xs : List Int) (p : Option Addr) (c : Nat) (th : Int) (a : Ct.Acc) (h : SH B w (osl 40 1 (.slice p xs.length c) xs.length (xs.map (Value.int .i64)) :: L)) (hx : Ct.existsC xs.length a.cell = false) :
  Calls Tryz.prog 95 #[.slice p xs.length c, .int .i64 th, .agg (acC a).toArray] w fun e w' => e = .returned (.agg (entC (Ct.entryM xs th a).1).toArray) ∧ SH B w' (osl 40 1 (.slice p xs.length c) xs.length ((Ct.entryM xs th a).2.map (Value.int .i64)) :: L) := by
 have hE : Ct.entryM xs th a = ({ thread := th, acc := a }, xs) := by unfold Ct.entryM; rw [if_pos hx]
 refine bgn (args := [_, _, _]) Tryz.func95 rfl Tryz.ntmps95 rfl ?_
 refine sq <| rg <| sf (bx h rfl rfl) <| ?_
 rintro _ w ⟨b1, rfl, h⟩
 refine sf (al h zc_75) <| ?_
 rintro _ w ⟨b2, rfl, h⟩
 refine xe <| nx <| sq <| rg <| st (mv rfl) <| st (ldr rfl (rows_all (h.b a1)) row_73) <| st (bd [.int .i64 th, .int .i64 a.kind, .int .i64 a.cell, .int .i64 a.old, .int .i64 a.new, .int .i64 0, .bool false] bd_75 rfl (by kernel_rfl)) <| sf (al h zc_75) <| ?_
 rintro _ w ⟨b3, rfl, h⟩
 refine sf (so h rfl rfl rfl sz_75 rfl (.r (.r (.r (.r (.r (.r (.r .d))))))) u0) <| ?_
 rintro _ w h
 refine xe <| nx <| sq <| sq <| rg <| st (mv rfl) <| st (fa fo_73_1 rfl) <| st (ld one_41 rfl (h.c a2 rfl)) <| cl (ca en_94 rfl) ((exists_any p xs.length c a.cell).mono ?_)
 rintro _ _ ⟨rfl, rfl⟩
 refine ⟨_, rfl, ?_⟩
 refine st (nt rfl) <| xe <| nx <| ct rfl (by rw [hx]; rfl) <| sq <| rg <| st (ldr rfl (rows_all (h.b a0)) row_75) <| sf (so h rfl rfl rfl sz_75 rfl (.r (.r (.r (.r (.r (.r (.r .d))))))) u1) <| ?_
 rintro _ w h
 refine xe <| nx <| rt <| tr <| ?_
 refine rr (resC Tryz.results95 rfl (h.b a1) row_75) <| ⟨?_, ?_⟩
 ·rw [hE]; rfl
 ·rw [hE]; exact h.drop.drop.drop
set_option maxRecDepth 100000 in
theorem entry_1 {B w : World} {L : List As} (xs : List Int) (b c : Nat) (th : Int) (a : Ct.Acc) (h : SH B w (osl 40 1 (.slice (some ⟨b, 0, none⟩) xs.length c) xs.length (xs.map (Value.int .i64)) :: L)) (hx : Ct.existsC xs.length a.cell = true) (hk : a.kind = 1) :
  Calls Tryz.prog 95 #[.slice (some ⟨b, 0, none⟩) xs.length c, .int .i64 th, .agg (acC a).toArray] w fun e w' => e = .returned (.agg (entC (Ct.entryM xs th a).1).toArray) ∧ SH B w' (osl 40 1 (.slice (some ⟨b, 0, none⟩) xs.length c) xs.length ((Ct.entryM xs th a).2.map (Value.int .i64)) :: L) := by
 have hE : Ct.entryM xs th a = ({ thread := th, acc := a, loaded := xs.getD (a.cell.toNat - 1) 0 }, xs) := by unfold Ct.entryM; rw [if_neg (by rw [hx]; decide)]; rw [if_pos hk]
 have hx' : 1 ≤ a.cell ∧ a.cell ≤ xs.length := by simpa [Ct.existsC] using hx
 obtain ⟨j, hjj⟩ : ∃ j : Nat, a.cell = (j : Int) + 1 := ⟨a.cell.toNat - 1, by omega⟩
 have hj : j < xs.length := by omega
 have hlm := h.lm a0
 unfold maxLen at hlm
 have htj : a.cell.toNat - 1 = j := by omega
 try rw [htj] at hE
 refine bgn (args := [_, _, _]) Tryz.func95 rfl Tryz.ntmps95 rfl ?_
 refine sq <| rg <| sf (bx h rfl rfl) <| ?_
 rintro _ w ⟨b1, rfl, h⟩
 refine sf (al h zc_75) <| ?_
 rintro _ w ⟨b2, rfl, h⟩
 refine xe <| nx <| sq <| rg <| st (mv rfl) <| st (ldr rfl (rows_all (h.b a1)) row_73) <| st (bd [.int .i64 th, .int .i64 a.kind, .int .i64 a.cell, .int .i64 a.old, .int .i64 a.new, .int .i64 0, .bool false] bd_75 rfl (by kernel_rfl)) <| sf (al h zc_75) <| ?_
 rintro _ w ⟨b3, rfl, h⟩
 refine sf (so h rfl rfl rfl sz_75 rfl (.r (.r (.r (.r (.r (.r (.r .d))))))) u0) <| ?_
 rintro _ w h
 refine xe <| nx <| sq <| sq <| rg <| st (mv rfl) <| st (fa fo_73_1 rfl) <| st (ld one_41 rfl (h.c a2 rfl)) <| cl (ca en_94 rfl) ((exists_any (some ⟨b, 0, none⟩) xs.length c a.cell).mono ?_)
 rintro _ _ ⟨rfl, rfl⟩
 refine ⟨_, rfl, ?_⟩
 refine st (nt rfl) <| xe <| nx <| cf rfl (by rw [hx]; rfl) <| sk <| nx <| sq <| rg <| st (mv rfl) <| st (fa fo_73_1 rfl) <| st (ld one_41 rfl (h.c a2 rfl)) <| st (bw rfl rfl (wsub (c := ((j : Nat) : Int)) (by omega) (by omega) (by omega))) <| st (ix (j := j) sl_56 sz_40 rfl rfl hj) <| st (sg rfl) <| xe <| nx <| sq <| sq <| rg <| st (fa fo_73_0 rfl) <| st (ld one_3 rfl (h.c a2 rfl)) <| st (bi rfl rfl rfl) <| xe <| nx <| ct rfl (beq_iff_eq.2 hk) <| rg <| st (mv rfl) <| st (nc rfl rfl) <| st (ld one_40 rfl ((h.ro a3).i hj)) <| st (fa fo_75_2 rfl) <| sf (so h rfl rfl rfl sz_40 rfl (.s (.s (.s (.s (.s (.r .d)))))) u0) <| ?_
 rintro _ w h
 refine xe <| nx <| sq <| rg <| st (ldr rfl (rows_all (h.b a0)) row_75) <| sf (so h rfl rfl rfl sz_75 rfl (.r (.r (.r (.r (.r (.r (.r .d))))))) u1) <| ?_
 rintro _ w h
 refine xe <| nx <| rt <| ?_
 refine rr (resC Tryz.results95 rfl (h.b a1) row_75) <| ⟨?_, ?_⟩
 ·rw [hE]; rfl
 ·rw [hE]; exact h.drop.drop.drop
set_option maxRecDepth 100000 in
theorem entry_2 {B w : World} {L : List As} (xs : List Int) (b c : Nat) (th : Int) (a : Ct.Acc) (h : SH B w (osl 40 1 (.slice (some ⟨b, 0, none⟩) xs.length c) xs.length (xs.map (Value.int .i64)) :: L)) (hx : Ct.existsC xs.length a.cell = true) (hk : a.kind ≠ 1) (hq : xs.getD (a.cell.toNat - 1) 0 = a.old) :
  Calls Tryz.prog 95 #[.slice (some ⟨b, 0, none⟩) xs.length c, .int .i64 th, .agg (acC a).toArray] w fun e w' => e = .returned (.agg (entC (Ct.entryM xs th a).1).toArray) ∧ SH B w' (osl 40 1 (.slice (some ⟨b, 0, none⟩) xs.length c) xs.length ((Ct.entryM xs th a).2.map (Value.int .i64)) :: L) := by
 have hE : Ct.entryM xs th a = ({ thread := th, acc := a, swapped := true }, xs.set (a.cell.toNat - 1) a.new) := by unfold Ct.entryM; rw [if_neg (by rw [hx]; decide)]; rw [if_neg hk, if_pos hq]
 have hx' : 1 ≤ a.cell ∧ a.cell ≤ xs.length := by simpa [Ct.existsC] using hx
 obtain ⟨j, hjj⟩ : ∃ j : Nat, a.cell = (j : Int) + 1 := ⟨a.cell.toNat - 1, by omega⟩
 have hj : j < xs.length := by omega
 have hlm := h.lm a0
 unfold maxLen at hlm
 have htj : a.cell.toNat - 1 = j := by omega
 try rw [htj] at hE
 rw [htj] at hq
 refine bgn (args := [_, _, _]) Tryz.func95 rfl Tryz.ntmps95 rfl ?_
 refine sq <| rg <| sf (bx h rfl rfl) <| ?_
 rintro _ w ⟨b1, rfl, h⟩
 refine sf (al h zc_75) <| ?_
 rintro _ w ⟨b2, rfl, h⟩
 refine xe <| nx <| sq <| rg <| st (mv rfl) <| st (ldr rfl (rows_all (h.b a1)) row_73) <| st (bd [.int .i64 th, .int .i64 a.kind, .int .i64 a.cell, .int .i64 a.old, .int .i64 a.new, .int .i64 0, .bool false] bd_75 rfl (by kernel_rfl)) <| sf (al h zc_75) <| ?_
 rintro _ w ⟨b3, rfl, h⟩
 refine sf (so h rfl rfl rfl sz_75 rfl (.r (.r (.r (.r (.r (.r (.r .d))))))) u0) <| ?_
 rintro _ w h
 refine xe <| nx <| sq <| sq <| rg <| st (mv rfl) <| st (fa fo_73_1 rfl) <| st (ld one_41 rfl (h.c a2 rfl)) <| cl (ca en_94 rfl) ((exists_any (some ⟨b, 0, none⟩) xs.length c a.cell).mono ?_)
 rintro _ _ ⟨rfl, rfl⟩
 refine ⟨_, rfl, ?_⟩
 refine st (nt rfl) <| xe <| nx <| cf rfl (by rw [hx]; rfl) <| sk <| nx <| sq <| rg <| st (mv rfl) <| st (fa fo_73_1 rfl) <| st (ld one_41 rfl (h.c a2 rfl)) <| st (bw rfl rfl (wsub (c := ((j : Nat) : Int)) (by omega) (by omega) (by omega))) <| st (ix (j := j) sl_56 sz_40 rfl rfl hj) <| st (sg rfl) <| xe <| nx <| sq <| sq <| rg <| st (fa fo_73_0 rfl) <| st (ld one_3 rfl (h.c a2 rfl)) <| st (bi rfl rfl rfl) <| xe <| nx <| cf rfl (beq_eq_false_iff_ne.2 hk) <| sq <| drH [1, 3, 5, 7, 9, 11] (by kernel_rfl) h (.c r3 (.c r2 .n)) fun w h => tk (fun W H => mv rfl) <| tk (fun W H => nc rfl rfl) <| tk (fun W H => ld one_40 rfl ((H.ro a0).i hj)) <| tk (fun W H => fa fo_73_2 rfl) <| tk (fun W H => ld one_40 rfl (H.c a1 rfl)) <| tk (fun W H => bi rfl rfl rfl) <| xz <| nx <| ct rfl (beq_iff_eq.2 hq) <| sq <| rg <| st (fa fo_75_3 rfl) <| sf (so h rfl rfl rfl sz_4 rfl (.s (.s (.s (.s (.s (.s (.r .d))))))) u0) <| ?_
 rintro _ w h
 refine xe <| nx <| rg <| st (mv rfl) <| st (fa fo_73_3 rfl) <| st (ld one_40 rfl (h.c a2 rfl)) <| st (nc rfl rfl) <| sf (soi h sz_40 rfl rfl hj u3) <| ?_
 rintro _ w h
 refine xe <| nx <| sq <| rg <| st (ldr rfl (rows_all (h.b a0)) row_75) <| sf (so h rfl rfl rfl sz_75 rfl (.r (.r (.r (.r (.r (.r (.r .d))))))) u1) <| ?_
 rintro _ w h
 refine xe <| nx <| rt <| ?_
 refine rr (resC Tryz.results95 rfl (h.b a1) row_75) <| ⟨?_, ?_⟩
 ·rw [hE]; rfl
 ·rw [hE]; exact h.drop.drop.drop
set_option maxRecDepth 100000 in
theorem entry_3 {B w : World} {L : List As} (xs : List Int) (b c : Nat) (th : Int) (a : Ct.Acc) (h : SH B w (osl 40 1 (.slice (some ⟨b, 0, none⟩) xs.length c) xs.length (xs.map (Value.int .i64)) :: L)) (hx : Ct.existsC xs.length a.cell = true) (hk : a.kind ≠ 1) (hq : xs.getD (a.cell.toNat - 1) 0 ≠ a.old) :
  Calls Tryz.prog 95 #[.slice (some ⟨b, 0, none⟩) xs.length c, .int .i64 th, .agg (acC a).toArray] w fun e w' => e = .returned (.agg (entC (Ct.entryM xs th a).1).toArray) ∧ SH B w' (osl 40 1 (.slice (some ⟨b, 0, none⟩) xs.length c) xs.length ((Ct.entryM xs th a).2.map (Value.int .i64)) :: L) := by
 have hE : Ct.entryM xs th a = ({ thread := th, acc := a }, xs) := by unfold Ct.entryM; rw [if_neg (by rw [hx]; decide)]; rw [if_neg hk, if_neg hq]
 have hx' : 1 ≤ a.cell ∧ a.cell ≤ xs.length := by simpa [Ct.existsC] using hx
 obtain ⟨j, hjj⟩ : ∃ j : Nat, a.cell = (j : Int) + 1 := ⟨a.cell.toNat - 1, by omega⟩
 have hj : j < xs.length := by omega
 have hlm := h.lm a0
 unfold maxLen at hlm
 have htj : a.cell.toNat - 1 = j := by omega
 try rw [htj] at hE
 rw [htj] at hq
 refine bgn (args := [_, _, _]) Tryz.func95 rfl Tryz.ntmps95 rfl ?_
 refine sq <| rg <| sf (bx h rfl rfl) <| ?_
 rintro _ w ⟨b1, rfl, h⟩
 refine sf (al h zc_75) <| ?_
 rintro _ w ⟨b2, rfl, h⟩
 refine xe <| nx <| sq <| rg <| st (mv rfl) <| st (ldr rfl (rows_all (h.b a1)) row_73) <| st (bd [.int .i64 th, .int .i64 a.kind, .int .i64 a.cell, .int .i64 a.old, .int .i64 a.new, .int .i64 0, .bool false] bd_75 rfl (by kernel_rfl)) <| sf (al h zc_75) <| ?_
 rintro _ w ⟨b3, rfl, h⟩
 refine sf (so h rfl rfl rfl sz_75 rfl (.r (.r (.r (.r (.r (.r (.r .d))))))) u0) <| ?_
 rintro _ w h
 refine xe <| nx <| sq <| sq <| rg <| st (mv rfl) <| st (fa fo_73_1 rfl) <| st (ld one_41 rfl (h.c a2 rfl)) <| cl (ca en_94 rfl) ((exists_any (some ⟨b, 0, none⟩) xs.length c a.cell).mono ?_)
 rintro _ _ ⟨rfl, rfl⟩
 refine ⟨_, rfl, ?_⟩
 refine st (nt rfl) <| xe <| nx <| cf rfl (by rw [hx]; rfl) <| sk <| nx <| sq <| rg <| st (mv rfl) <| st (fa fo_73_1 rfl) <| st (ld one_41 rfl (h.c a2 rfl)) <| st (bw rfl rfl (wsub (c := ((j : Nat) : Int)) (by omega) (by omega) (by omega))) <| st (ix (j := j) sl_56 sz_40 rfl rfl hj) <| st (sg rfl) <| xe <| nx <| sq <| sq <| rg <| st (fa fo_73_0 rfl) <| st (ld one_3 rfl (h.c a2 rfl)) <| st (bi rfl rfl rfl) <| xe <| nx <| cf rfl (beq_eq_false_iff_ne.2 hk) <| sq <| drH [1, 3, 5, 7, 9, 11] (by kernel_rfl) h (.c r3 (.c r2 .n)) fun w h => tk (fun W H => mv rfl) <| tk (fun W H => nc rfl rfl) <| tk (fun W H => ld one_40 rfl ((H.ro a0).i hj)) <| tk (fun W H => fa fo_73_2 rfl) <| tk (fun W H => ld one_40 rfl (H.c a1 rfl)) <| tk (fun W H => bi rfl rfl rfl) <| xz <| nx <| cf rfl (beq_eq_false_iff_ne.2 hq) <| sk <| nx <| sq <| rg <| st (ldr rfl (rows_all (h.b a0)) row_75) <| sf (so h rfl rfl rfl sz_75 rfl (.r (.r (.r (.r (.r (.r (.r .d))))))) u1) <| ?_
 rintro _ w h
 refine xe <| nx <| rt <| ?_
 refine rr (resC Tryz.results95 rfl (h.b a1) row_75) <| ⟨?_, ?_⟩
 ·rw [hE]; rfl
 ·rw [hE]; exact h.drop.drop.drop
end Go.Proofs.YtjlgchdekhmnnaaGreatDoor
end
