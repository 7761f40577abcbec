/- Parts of a proof: Tr, Mb. -/
import Derived.Test.YtjlgchdekhmnnaaGreatDoorProg
import Derived.Test.YtjlgchdekhmnnaaGreatDoorTC04
import Derived.Laws.Bits64
import Derived.Test.YtjlgchdekhmnnaaGreatDoorM39
set_option linter.unusedVariables false
set_option linter.unusedSimpArgs false
section
namespace Go.Proofs.YtjlgchdekhmnnaaGreatDoor
open Go.RowKit Go.E
def acC (a : Ct.Acc) : List Value := [.int .i64 a.kind, .int .i64 a.cell, .int .i64 a.old, .int .i64 a.new]
def entC (e : Ct.Ent) : List Value := [.int .i64 e.thread, .int .i64 e.acc.kind, .int .i64 e.acc.cell, .int .i64 e.acc.old, .int .i64 e.acc.new, .int .i64 e.loaded, .bool e.swapped]
theorem entC_len (e : Ct.Ent) : (entC e).length = 7 := rfl
theorem entC_one (e : Ct.Ent) : (entC e).all Value.oneCell' = true := rfl
def Mod (v m : Int) : Int := v % 18446744073709551616 % m
theorem Mod_lt (v m : Int) (h : 0 < m) : 0 ≤ Mod v m ∧ Mod v m < m := ⟨Int.emod_nonneg _ (by omega), Int.emod_lt_of_pos _ h⟩
theorem wrapu (v : Int) : IntKind.u64.wrap v = v % 18446744073709551616 := by rw [IntKind.wrap_u64]
theorem wrapm {m : Int} (h0 : 0 < m) (h1 : m ≤ 9223372036854775807) : IntKind.u64.wrap m = m := by rw [IntKind.wrap_u64]; omega
theorem modT (v m : Int) (h0 : 0 < m) : (v % 18446744073709551616).tmod m = Mod v m := by
 unfold Mod; rw [Int.tmod_eq_emod_of_nonneg (by omega)]
def tapeA (b : Nat) (l : List Int) (i : Nat) : As := ex fun pc : Option Addr × Nat => se [bl b [.slice pc.1 l.length pc.2, .int .i64 ((i : Nat) : Int)] 110, rsl 1 (.slice pc.1 l.length pc.2) l.length (l.map (Value.int .i64))]
def nextV (l : List Int) (i : Nat) (n : Int) : Int := if i < l.length then Mod (l.getD i 0) n else 0
def nextI (l : List Int) (i : Nat) : Nat := if i < l.length then i + 1 else i
set_option maxRecDepth 100000 in
theorem Mod_any {w : World} (v m : Int) (h0 : 0 < m) (h1 : m ≤ 9223372036854775807) :
  Calls Tryz.prog 38 #[.int .i64 v, .int .i64 m] w fun e w' => e = .returned (.int .i64 (Mod v m)) ∧ w' = w := by
 refine bgn (args := [_, _]) Tryz.func38 rfl Tryz.ntmps38 rfl ?_
 refine sq <| rg <| st (sg rfl) <| xe <| nx <| sq <| rg <| st (mv rfl) <| st (cvw un_3 un_27 rfl (wrapu v)) <| st (mv rfl) <| st (cvw un_3 un_27 rfl (wrapm h0 h1)) <| st (brw rfl rfl (by omega) (modT v m h0)) <| st (cvw un_27 un_3 rfl (w64 (by have := Mod_lt v m h0; omega) (by have := Mod_lt v m h0; omega))) <| st (sg rfl) <| xe <| nx <| rt <| ?_
 refine rr (res1 Tryz.results38 rfl) <| ⟨rfl, rfl⟩
set_option maxRecDepth 100000 in
theorem Next_any {B w : World} {L : List As} (b : Nat) (l : List Int) (i : Nat) (n : Int) (h0 : 0 < n) (h1 : n ≤ 9223372036854775807) (h : SH B w (tapeA b l i :: L)) :
  Calls Tryz.prog 25 #[.pointer (some ⟨b, 0, none⟩), .int .i64 n] w fun e w' => e = .returned (.int .i64 (nextV l i n)) ∧ SH B w' (tapeA b l (nextI l i) :: L) := by
 obtain ⟨⟨p, c⟩, h⟩ := h.ex
 have h := h.se
 have hlm := (h.rl a1).2
 unfold maxLen at hlm
 refine bgn (args := [_, _]) Tryz.func25 rfl Tryz.ntmps25 rfl ?_
 refine sq <| rg <| st (sg rfl) <| xe <| nx <| sq <| sq <| drH [1, 3, 5, 7, 9, 11, 13, 15, 17, 19] (by kernel_rfl) h (.c r0 .n) fun w h => tk (fun W H => mv rfl) <| tk (fun W H => nc rfl rfl) <| tk (fun W H => fa fo_110_1 rfl) <| tk (fun W H => ld one_3 rfl (H.c a0 rfl)) <| tk (fun W H => mv rfl) <| tk (fun W H => nc rfl rfl) <| tk (fun W H => fa fo_110_0 rfl) <| tk (fun W H => ld one_22 rfl (H.c a0 rfl)) <| tk (fun W H => ln sl_22 rfl rfl) <| tk (fun W H => bi rfl rfl rfl) <| xz <| nx <| ?_
 rcases Bool.eq_false_or_eq_true (decide ((((i : Nat) : Int) : Int) ≥ ((l.length : Nat) : Int))) with hd1 | hd1
 ·have hg2 := of_decide_eq_true hd1
  refine ct rfl hd1 <| sq <| rg <| st (sg rfl) <| xe <| nx <| rt <| tr <| ?_
  refine rr (res1 Tryz.results25 rfl) <| ⟨by rw [nextV, if_neg (by omega)], by rw [nextI, if_neg (by omega)]; exact SH.in_ (_, _) (SH.is (l := [_, _]) (h))⟩
 ·have hg3 := of_decide_eq_false hd1
  refine cf rfl hd1 <| sk <| nx <| sq <| rg <| st (mv rfl) <| st (nc rfl rfl) <| st (fa fo_110_1 rfl) <| st (ld one_3 rfl (h.c a0 rfl)) <| st (bw rfl rfl (wadd (c := ((i + 1 : Nat) : Int)) (by omega) (by omega) (by omega))) <| st (nc rfl rfl) <| st (fa fo_110_1 rfl) <| sf (so h rfl rfl rfl sz_3 rfl (.s (.r .d)) u0) <| ?_
  rintro _ w h
  refine xe <| nx <| sq <| ?_
  obtain ⟨b4, o5, rfl⟩ := h.fq a1 (by omega)
  refine drH [1, 3, 5, 7, 9, 11, 13, 15, 17, 19, 21, 23, 24, 26] (by kernel_rfl) h (.c r0 (.c r0 .n)) fun w h => tk (fun W H => mv rfl) <| tk (fun W H => nc rfl rfl) <| tk (fun W H => fa fo_110_0 rfl) <| tk (fun W H => ld one_22 rfl (H.c a0 rfl)) <| tk (fun W H => mv rfl) <| tk (fun W H => nc rfl rfl) <| tk (fun W H => fa fo_110_1 rfl) <| tk (fun W H => ld one_3 rfl (H.c a0 rfl)) <| tk (fun W H => bw rfl rfl (wsub (c := ((i : Nat) : Int)) (by omega) (by omega) (by omega))) <| tk (fun W H => ix (j := i) sl_22 sz_3 rfl rfl (by omega)) <| tk (fun W H => ld one_3 rfl ((H.rr a1).i (by omega))) <| tk (fun W H => mv rfl) <| cs (ca en_38 rfl) ((Mod_any (l.getD i 0) n h0 h1).mono ?_)
  rintro _ _ ⟨rfl, rfl⟩
  refine ⟨_, rfl, h.hs (.c r0 (.c r0 .n)), ?_⟩
  refine ef (sg rfl) (h.hs (.c r0 (.c r0 .n))) <| xz <| nx <| rt <| ?_
  refine rr (res1 Tryz.results25 rfl) <| ⟨by rw [nextV, if_pos (by omega)], by rw [nextI, if_pos (by omega)]; exact SH.in_ (_, _) (SH.is (l := [_, _]) (h))⟩
set_option maxRecDepth 100000 in
theorem Left_any {B w : World} {L : List As} (b : Nat) (l : List Int) (i : Nat) (h : SH B w (tapeA b l i :: L)) :
  Calls Tryz.prog 55 #[.pointer (some ⟨b, 0, none⟩)] w fun e w' => e = .returned (.bool (decide ((i : Int) < l.length))) ∧ SH B w' (tapeA b l i :: L) := by
 obtain ⟨⟨p, c⟩, h⟩ := h.ex
 have h := h.se
 have hlm := (h.rl a1).2
 unfold maxLen at hlm
 refine bgn (args := [_]) Tryz.func55 rfl Tryz.ntmps55 rfl ?_
 refine sq <| rg <| st (sg rfl) <| xe <| nx <| sq <| drH [1, 3, 5, 7, 9, 11, 13, 15, 17, 19, 20] (by kernel_rfl) h (.c r0 .n) fun w h => tk (fun W H => mv rfl) <| tk (fun W H => nc rfl rfl) <| tk (fun W H => fa fo_110_1 rfl) <| tk (fun W H => ld one_3 rfl (H.c a0 rfl)) <| tk (fun W H => mv rfl) <| tk (fun W H => nc rfl rfl) <| tk (fun W H => fa fo_110_0 rfl) <| tk (fun W H => ld one_22 rfl (H.c a0 rfl)) <| tk (fun W H => ln sl_22 rfl rfl) <| tk (fun W H => bi rfl rfl rfl) <| ef (sg rfl) (h.hs (.c r0 .n)) <| xz <| nx <| rt <| ?_
 refine rr (res1 Tryz.results55 rfl) <| ⟨rfl, SH.in_ (_, _) (SH.is (l := [_, _]) (h))⟩
set_option maxRecDepth 100000 in
theorem New_any {B w : World} {L : List As} (l : List Int) (p : Option Addr) (c : Nat) (h : SH B w (rsl 1 (.slice p l.length c) l.length (l.map (Value.int .i64)) :: L)) :
  Calls Tryz.prog 13 #[.slice p l.length c] w fun e w' => ∃ b, e = .returned (.pointer (some ⟨b, 0, none⟩)) ∧ SH B w' (tapeA b l 0 :: L) := by
 refine bgn (args := [_]) Tryz.func13 rfl Tryz.ntmps13 rfl ?_
 refine sq <| rg <| st (sg rfl) <| xe <| nx <| sq <| rg <| st (mv rfl) <| st (bd [.slice p l.length c, .int .i64 0] bd_110 rfl (by kernel_rfl)) <| sf (bx h rfl rfl) <| ?_
 rintro _ w ⟨b1, rfl, h⟩
 refine st (sg rfl) <| xe <| nx <| rt <| ?_
 refine rr (res1 Tryz.results13 rfl) <| ⟨_, rfl, SH.in_ (p, c) (SH.is (l := [_, _]) (h))⟩
set_option maxRecDepth 100000 in
theorem exists_any {w : World} (p : Option Addr) (n cap : Nat) (c : Int) :
  Calls Tryz.prog 94 #[.slice p n cap, .int .i64 c] w fun e w' => e = .returned (.bool (Ct.existsC n c)) ∧ w' = w := by
 refine bgn (args := [_, _]) Tryz.func94 rfl Tryz.ntmps94 rfl ?_
 refine sq <| rg <| st (sg rfl) <| xe <| nx <| sq <| rg <| st (mv rfl) <| st (bi rfl rfl rfl) <| st (mv rfl) <| ?_
 rcases Bool.eq_false_or_eq_true (decide ((c : Int) ≥ 1)) with hd1 | hd1
 ·have hg2 := of_decide_eq_true hd1
  refine gT rfl rfl hd1 <| st (mv rfl) <| gT rfl rfl hd1 <| st (mv rfl) <| gT rfl rfl hd1 <| st (ln sl_56 rfl rfl) <| gT rfl rfl hd1 <| st (bi rfl rfl rfl) <| st (pT rfl hd1 rfl) <| st (sg rfl) <| xe <| nx <| rt <| ?_
  refine rr (res1 Tryz.results94 rfl) <| ⟨by unfold Ct.existsC; simp [hd1], rfl⟩
 ·have hg3 := of_decide_eq_false hd1
  refine gF rfl rfl hd1 <| gF rfl rfl hd1 <| gF rfl rfl hd1 <| gF rfl rfl hd1 <| st (pF rfl hd1 rfl) <| st (sg rfl) <| xe <| nx <| rt <| ?_
  refine rr (res1 Tryz.results94 rfl) <| ⟨by unfold Ct.existsC; simp [hd1], rfl⟩
set_option maxRecDepth 100000 in
theorem entry_0 {B w : World} {L : List As} (xs : List Int) (p : Option Addr) (c : Nat) (th : Int) (a : Ct.Acc) (h : SH B w (osl 40 1 (.slice p xs.length c) xs.length (xs.map (Value.int .i64)) :: L)) (hx : Ct.existsC xs.length a.cell = false) :
  Calls Tryz.prog 95 #[.slice p xs.length c, .int .i64 th, .agg (acC a).toArray] w fun e w' => e = .returned (.agg (entC (Ct.entryM xs th a).1).toArray) ∧ SH B w' (osl 40 1 (.slice p xs.length c) xs.length ((Ct.entryM xs th a).2.map (Value.int .i64)) :: L) := by
 have hE : Ct.entryM xs th a = ({ thread := th, acc := a }, xs) := by unfold Ct.entryM; rw [if_pos hx]
 refine bgn (args := [_, _, _]) Tryz.func95 rfl Tryz.ntmps95 rfl ?_
 refine sq <| rg <| sf (bx h rfl rfl) <| ?_
 rintro _ w ⟨b1, rfl, h⟩
 refine sf (al h zc_75) <| ?_
 rintro _ w ⟨b2, rfl, h⟩
 refine xe <| nx <| sq <| rg <| st (mv rfl) <| st (ldr rfl (rows_all (h.b a1)) row_73) <| st (bd [.int .i64 th, .int .i64 a.kind, .int .i64 a.cell, .int .i64 a.old, .int .i64 a.new, .int .i64 0, .bool false] bd_75 rfl (by kernel_rfl)) <| sf (al h zc_75) <| ?_
 rintro _ w ⟨b3, rfl, h⟩
 refine sf (so h rfl rfl rfl sz_75 rfl (.r (.r (.r (.r (.r (.r (.r .d))))))) u0) <| ?_
 rintro _ w h
 refine xe <| nx <| sq <| sq <| rg <| st (mv rfl) <| st (fa fo_73_1 rfl) <| st (ld one_41 rfl (h.c a2 rfl)) <| cl (ca en_94 rfl) ((exists_any p xs.length c a.cell).mono ?_)
 rintro _ _ ⟨rfl, rfl⟩
 refine ⟨_, rfl, ?_⟩
 refine st (nt rfl) <| xe <| nx <| ct rfl (by rw [hx]; rfl) <| sq <| rg <| st (ldr rfl (rows_all (h.b a0)) row_75) <| sf (so h rfl rfl rfl sz_75 rfl (.r (.r (.r (.r (.r (.r (.r .d))))))) u1) <| ?_
 rintro _ w h
 refine xe <| nx <| rt <| tr <| ?_
 refine rr (resC Tryz.results95 rfl (h.b a1) row_75) <| ⟨?_, ?_⟩
 ·rw [hE]; rfl
 ·rw [hE]; exact h.drop.drop.drop
set_option maxRecDepth 100000 in
theorem entry_1 {B w : World} {L : List As} (xs : List Int) (b c : Nat) (th : Int) (a : Ct.Acc) (h : SH B w (osl 40 1 (.slice (some ⟨b, 0, none⟩) xs.length c) xs.length (xs.map (Value.int .i64)) :: L)) (hx : Ct.existsC xs.length a.cell = true) (hk : a.kind = 1) :
  Calls Tryz.prog 95 #[.slice (some ⟨b, 0, none⟩) xs.length c, .int .i64 th, .agg (acC a).toArray] w fun e w' => e = .returned (.agg (entC (Ct.entryM xs th a).1).toArray) ∧ SH B w' (osl 40 1 (.slice (some ⟨b, 0, none⟩) xs.length c) xs.length ((Ct.entryM xs th a).2.map (Value.int .i64)) :: L) := by
 have hE : Ct.entryM xs th a = ({ thread := th, acc := a, loaded := xs.getD (a.cell.toNat - 1) 0 }, xs) := by unfold Ct.entryM; rw [if_neg (by rw [hx]; decide)]; rw [if_pos hk]
 have hx' : 1 ≤ a.cell ∧ a.cell ≤ xs.length := by simpa [Ct.existsC] using hx
 obtain ⟨j, hjj⟩ : ∃ j : Nat, a.cell = (j : Int) + 1 := ⟨a.cell.toNat - 1, by omega⟩
 have hj : j < xs.length := by omega
 have hlm := h.lm a0
 unfold maxLen at hlm
 have htj : a.cell.toNat - 1 = j := by omega
 try rw [htj] at hE
 refine bgn (args := [_, _, _]) Tryz.func95 rfl Tryz.ntmps95 rfl ?_
 refine sq <| rg <| sf (bx h rfl rfl) <| ?_
 rintro _ w ⟨b1, rfl, h⟩
 refine sf (al h zc_75) <| ?_
 rintro _ w ⟨b2, rfl, h⟩
 refine xe <| nx <| sq <| rg <| st (mv rfl) <| st (ldr rfl (rows_all (h.b a1)) row_73) <| st (bd [.int .i64 th, .int .i64 a.kind, .int .i64 a.cell, .int .i64 a.old, .int .i64 a.new, .int .i64 0, .bool false] bd_75 rfl (by kernel_rfl)) <| sf (al h zc_75) <| ?_
 rintro _ w ⟨b3, rfl, h⟩
 refine sf (so h rfl rfl rfl sz_75 rfl (.r (.r (.r (.r (.r (.r (.r .d))))))) u0) <| ?_
 rintro _ w h
 refine xe <| nx <| sq <| sq <| rg <| st (mv rfl) <| st (fa fo_73_1 rfl) <| st (ld one_41 rfl (h.c a2 rfl)) <| cl (ca en_94 rfl) ((exists_any (some ⟨b, 0, none⟩) xs.length c a.cell).mono ?_)
 rintro _ _ ⟨rfl, rfl⟩
 refine ⟨_, rfl, ?_⟩
 refine st (nt rfl) <| xe <| nx <| cf rfl (by rw [hx]; rfl) <| sk <| nx <| sq <| rg <| st (mv rfl) <| st (fa fo_73_1 rfl) <| st (ld one_41 rfl (h.c a2 rfl)) <| st (bw rfl rfl (wsub (c := ((j : Nat) : Int)) (by omega) (by omega) (by omega))) <| st (ix (j := j) sl_56 sz_40 rfl rfl hj) <| st (sg rfl) <| xe <| nx <| sq <| sq <| rg <| st (fa fo_73_0 rfl) <| st (ld one_3 rfl (h.c a2 rfl)) <| st (bi rfl rfl rfl) <| xe <| nx <| ct rfl (beq_iff_eq.2 hk) <| rg <| st (mv rfl) <| st (nc rfl rfl) <| st (ld one_40 rfl ((h.ro a3).i hj)) <| st (fa fo_75_2 rfl) <| sf (so h rfl rfl rfl sz_40 rfl (.s (.s (.s (.s (.s (.r .d)))))) u0) <| ?_
 rintro _ w h
 refine xe <| nx <| sq <| rg <| st (ldr rfl (rows_all (h.b a0)) row_75) <| sf (so h rfl rfl rfl sz_75 rfl (.r (.r (.r (.r (.r (.r (.r .d))))))) u1) <| ?_
 rintro _ w h
 refine xe <| nx <| rt <| ?_
 refine rr (resC Tryz.results95 rfl (h.b a1) row_75) <| ⟨?_, ?_⟩
 ·rw [hE]; rfl
 ·rw [hE]; exact h.drop.drop.drop
set_option maxRecDepth 100000 in
theorem entry_2 {B w : World} {L : List As} (xs : List Int) (b c : Nat) (th : Int) (a : Ct.Acc) (h : SH B w (osl 40 1 (.slice (some ⟨b, 0, none⟩) xs.length c) xs.length (xs.map (Value.int .i64)) :: L)) (hx : Ct.existsC xs.length a.cell = true) (hk : a.kind ≠ 1) (hq : xs.getD (a.cell.toNat - 1) 0 = a.old) :
  Calls Tryz.prog 95 #[.slice (some ⟨b, 0, none⟩) xs.length c, .int .i64 th, .agg (acC a).toArray] w fun e w' => e = .returned (.agg (entC (Ct.entryM xs th a).1).toArray) ∧ SH B w' (osl 40 1 (.slice (some ⟨b, 0, none⟩) xs.length c) xs.length ((Ct.entryM xs th a).2.map (Value.int .i64)) :: L) := by
 have hE : Ct.entryM xs th a = ({ thread := th, acc := a, swapped := true }, xs.set (a.cell.toNat - 1) a.new) := by unfold Ct.entryM; rw [if_neg (by rw [hx]; decide)]; rw [if_neg hk, if_pos hq]
 have hx' : 1 ≤ a.cell ∧ a.cell ≤ xs.length := by simpa [Ct.existsC] using hx
 obtain ⟨j, hjj⟩ : ∃ j : Nat, a.cell = (j : Int) + 1 := ⟨a.cell.toNat - 1, by omega⟩
 have hj : j < xs.length := by omega
 have hlm := h.lm a0
 unfold maxLen at hlm
 have htj : a.cell.toNat - 1 = j := by omega
 try rw [htj] at hE
 rw [htj] at hq
 refine bgn (args := [_, _, _]) Tryz.func95 rfl Tryz.ntmps95 rfl ?_
 refine sq <| rg <| sf (bx h rfl rfl) <| ?_
 rintro _ w ⟨b1, rfl, h⟩
 refine sf (al h zc_75) <| ?_
 rintro _ w ⟨b2, rfl, h⟩
 refine xe <| nx <| sq <| rg <| st (mv rfl) <| st (ldr rfl (rows_all (h.b a1)) row_73) <| st (bd [.int .i64 th, .int .i64 a.kind, .int .i64 a.cell, .int .i64 a.old, .int .i64 a.new, .int .i64 0, .bool false] bd_75 rfl (by kernel_rfl)) <| sf (al h zc_75) <| ?_
 rintro _ w ⟨b3, rfl, h⟩
 refine sf (so h rfl rfl rfl sz_75 rfl (.r (.r (.r (.r (.r (.r (.r .d))))))) u0) <| ?_
 rintro _ w h
 refine xe <| nx <| sq <| sq <| rg <| st (mv rfl) <| st (fa fo_73_1 rfl) <| st (ld one_41 rfl (h.c a2 rfl)) <| cl (ca en_94 rfl) ((exists_any (some ⟨b, 0, none⟩) xs.length c a.cell).mono ?_)
 rintro _ _ ⟨rfl, rfl⟩
 refine ⟨_, rfl, ?_⟩
 refine st (nt rfl) <| xe <| nx <| cf rfl (by rw [hx]; rfl) <| sk <| nx <| sq <| rg <| st (mv rfl) <| st (fa fo_73_1 rfl) <| st (ld one_41 rfl (h.c a2 rfl)) <| st (bw rfl rfl (wsub (c := ((j : Nat) : Int)) (by omega) (by omega) (by omega))) <| st (ix (j := j) sl_56 sz_40 rfl rfl hj) <| st (sg rfl) <| xe <| nx <| sq <| sq <| rg <| st (fa fo_73_0 rfl) <| st (ld one_3 rfl (h.c a2 rfl)) <| st (bi rfl rfl rfl) <| xe <| nx <| cf rfl (beq_eq_false_iff_ne.2 hk) <| sq <| drH [1, 3, 5, 7, 9, 11] (by kernel_rfl) h (.c r3 (.c r2 .n)) fun w h => tk (fun W H => mv rfl) <| tk (fun W H => nc rfl rfl) <| tk (fun W H => ld one_40 rfl ((H.ro a0).i hj)) <| tk (fun W H => fa fo_73_2 rfl) <| tk (fun W H => ld one_40 rfl (H.c a1 rfl)) <| tk (fun W H => bi rfl rfl rfl) <| xz <| nx <| ct rfl (beq_iff_eq.2 hq) <| sq <| rg <| st (fa fo_75_3 rfl) <| sf (so h rfl rfl rfl sz_4 rfl (.s (.s (.s (.s (.s (.s (.r .d))))))) u0) <| ?_
 rintro _ w h
 refine xe <| nx <| rg <| st (mv rfl) <| st (fa fo_73_3 rfl) <| st (ld one_40 rfl (h.c a2 rfl)) <| st (nc rfl rfl) <| sf (soi h sz_40 rfl rfl hj u3) <| ?_
 rintro _ w h
 refine xe <| nx <| sq <| rg <| st (ldr rfl (rows_all (h.b a0)) row_75) <| sf (so h rfl rfl rfl sz_75 rfl (.r (.r (.r (.r (.r (.r (.r .d))))))) u1) <| ?_
 rintro _ w h
 refine xe <| nx <| rt <| ?_
 refine rr (resC Tryz.results95 rfl (h.b a1) row_75) <| ⟨?_, ?_⟩
 ·rw [hE]; rfl
 ·rw [hE]; exact h.drop.drop.drop
set_option maxRecDepth 100000 in
theorem entry_3 {B w : World} {L : List As} (xs : List Int) (b c : Nat) (th : Int) (a : Ct.Acc) (h : SH B w (osl 40 1 (.slice (some ⟨b, 0, none⟩) xs.length c) xs.length (xs.map (Value.int .i64)) :: L)) (hx : Ct.existsC xs.length a.cell = true) (hk : a.kind ≠ 1) (hq : xs.getD (a.cell.toNat - 1) 0 ≠ a.old) :
  Calls Tryz.prog 95 #[.slice (some ⟨b, 0, none⟩) xs.length c, .int .i64 th, .agg (acC a).toArray] w fun e w' => e = .returned (.agg (entC (Ct.entryM xs th a).1).toArray) ∧ SH B w' (osl 40 1 (.slice (some ⟨b, 0, none⟩) xs.length c) xs.length ((Ct.entryM xs th a).2.map (Value.int .i64)) :: L) := by
 have hE : Ct.entryM xs th a = ({ thread := th, acc := a }, xs) := by unfold Ct.entryM; rw [if_neg (by rw [hx]; decide)]; rw [if_neg hk, if_neg hq]
 have hx' : 1 ≤ a.cell ∧ a.cell ≤ xs.length := by simpa [Ct.existsC] using hx
 obtain ⟨j, hjj⟩ : ∃ j : Nat, a.cell = (j : Int) + 1 := ⟨a.cell.toNat - 1, by omega⟩
 have hj : j < xs.length := by omega
 have hlm := h.lm a0
 unfold maxLen at hlm
 have htj : a.cell.toNat - 1 = j := by omega
 try rw [htj] at hE
 rw [htj] at hq
 refine bgn (args := [_, _, _]) Tryz.func95 rfl Tryz.ntmps95 rfl ?_
 refine sq <| rg <| sf (bx h rfl rfl) <| ?_
 rintro _ w ⟨b1, rfl, h⟩
 refine sf (al h zc_75) <| ?_
 rintro _ w ⟨b2, rfl, h⟩
 refine xe <| nx <| sq <| rg <| st (mv rfl) <| st (ldr rfl (rows_all (h.b a1)) row_73) <| st (bd [.int .i64 th, .int .i64 a.kind, .int .i64 a.cell, .int .i64 a.old, .int .i64 a.new, .int .i64 0, .bool false] bd_75 rfl (by kernel_rfl)) <| sf (al h zc_75) <| ?_
 rintro _ w ⟨b3, rfl, h⟩
 refine sf (so h rfl rfl rfl sz_75 rfl (.r (.r (.r (.r (.r (.r (.r .d))))))) u0) <| ?_
 rintro _ w h
 refine xe <| nx <| sq <| sq <| rg <| st (mv rfl) <| st (fa fo_73_1 rfl) <| st (ld one_41 rfl (h.c a2 rfl)) <| cl (ca en_94 rfl) ((exists_any (some ⟨b, 0, none⟩) xs.length c a.cell).mono ?_)
 rintro _ _ ⟨rfl, rfl⟩
 refine ⟨_, rfl, ?_⟩
 refine st (nt rfl) <| xe <| nx <| cf rfl (by rw [hx]; rfl) <| sk <| nx <| sq <| rg <| st (mv rfl) <| st (fa fo_73_1 rfl) <| st (ld one_41 rfl (h.c a2 rfl)) <| st (bw rfl rfl (wsub (c := ((j : Nat) : Int)) (by omega) (by omega) (by omega))) <| st (ix (j := j) sl_56 sz_40 rfl rfl hj) <| st (sg rfl) <| xe <| nx <| sq <| sq <| rg <| st (fa fo_73_0 rfl) <| st (ld one_3 rfl (h.c a2 rfl)) <| st (bi rfl rfl rfl) <| xe <| nx <| cf rfl (beq_eq_false_iff_ne.2 hk) <| sq <| drH [1, 3, 5, 7, 9, 11] (by kernel_rfl) h (.c r3 (.c r2 .n)) fun w h => tk (fun W H => mv rfl) <| tk (fun W H => nc rfl rfl) <| tk (fun W H => ld one_40 rfl ((H.ro a0).i hj)) <| tk (fun W H => fa fo_73_2 rfl) <| tk (fun W H => ld one_40 rfl (H.c a1 rfl)) <| tk (fun W H => bi rfl rfl rfl) <| xz <| nx <| cf rfl (beq_eq_false_iff_ne.2 hq) <| sk <| nx <| sq <| rg <| st (ldr rfl (rows_all (h.b a0)) row_75) <| sf (so h rfl rfl rfl sz_75 rfl (.r (.r (.r (.r (.r (.r (.r .d))))))) u1) <| ?_
 rintro _ w h
 refine xe <| nx <| rt <| ?_
 refine rr (resC Tryz.results95 rfl (h.b a1) row_75) <| ⟨?_, ?_⟩
 ·rw [hE]; rfl
 ·rw [hE]; exact h.drop.drop.drop
end Go.Proofs.YtjlgchdekhmnnaaGreatDoor
end
section
open Go Go.RowKit Go.E
namespace Go.Proofs.YtjlgchdekhmnnaaGreatDoor
def KindsOk (l : List (List Ct.Op)) : Prop := ∀ os ∈ l, ∀ o ∈ os, KindOk o ∧ (o.kind = 0 ∨ o.handle = 0)
theorem MInv.new {mask : Nat} {l : List (List Ct.Op)} {np n : Nat} (hc : checkC l np = 0) (hk : KindsOk l) (hn : n ≤ 400000) (hm : mask < 18446744073709551616) : MInv n (newM mask l) := by
 obtain ⟨h1, h2, h3⟩ := checkC_ok hc
 refine ⟨?_, by show 0 + n ≤ _; omega, by show 0 + 2 * n ≤ _; omega, by simp [newM, h1], fun i t hi => ?_, hm, ⟨_, rfl⟩⟩
 ·have hf : Fin (61000 + 100 * n + 6) ({} : Ct.St) := ⟨by simp [Ct.St.size]; omega, fun n hn => by cases hn⟩
  exact Fin.create hf
 ·replace hi : (l.map newTh)[i]? = some t := hi
  rw [List.getElem?_map] at hi
  cases ho : l[i]? with
  | none => rw [ho] at hi; cases hi
  | some os =>
   rw [ho] at hi; simp at hi; subst hi
   refine ⟨h3 os (List.mem_of_getElem? ho), hk os (List.mem_of_getElem? ho), fun c hc => (by cases hc), fun j h4 h5 _ => ?_, fun h => (by cases h)⟩
   rfl
theorem schedNew_a {B w : World} {L : List As} (mask : Nat) (vths vpk : Value) (l : List (List Ct.Op)) (pk : List Int) (h : SH B w L) (h1 : ThreadsAt (fun _ => False) w vths l) (h2 : PicksAt (fun _ => False) w vpk pk) (hc : checkC l pk.length = 0) :
  Calls Tryz.prog 20 #[.agg #[.int .u64 (mask : Nat), vths, vpk]] w fun e w' => ∃ m : MFix, e = .returned (.tuple #[.pointer (some ⟨m.mb, 0, none⟩), .int .i64 0]) ∧ SH B w' (machA m (pk.map (pickOf l.length)) (newM mask l) :: L) := by
 refine (schedNew_any (fun _ => False) w mask vths vpk l pk h1 h2).mono ?_
 intro e w' he
 unfold NewMRes at he
 rw [if_pos hc] at he
 obtain ⟨m, vpk', rfl, _, ⟨g, role, vth, vhi, ov, tb, hx, hB, hB2⟩, hk, hle⟩ := he
 exact ⟨m, rfl, h.mach hk hx hB hB2⟩
theorem accC_X (c : Ct.Code) : accC c = acC (accX c) := by cases c <;> rfl
theorem Busy_a {B w : World} {L : List As} (m : MFix) (pk : List Int) (M : Ct.Mach) (th : Int) (h : SH B w (machA m pk M :: L)) :
  Calls Tryz.prog 70 #[.pointer (some ⟨m.mb, 0, none⟩), .int .i64 th] w fun e w' => e = .returned (.tuple [.int .i64 (((nowM M th).getD (0, {})).1 : Nat), .agg (acC ((nowM M th).getD (0, {})).2).toArray, .bool (nowM M th).isSome].toArray) ∧ SH B w' (machA m pk M :: L) := by
 obtain ⟨g, role, vth, vpk, vhi, ov, tb, h1⟩ := h.mx
 have idle : Idle M th → nowM M th = none → Calls Tryz.prog 70 #[.pointer (some ⟨m.mb, 0, none⟩), .int .i64 th] w fun e w' => e = .returned (.tuple [.int .i64 (((nowM M th).getD (0, {})).1 : Nat), .agg (acC ((nowM M th).getD (0, {})).2).toArray, .bool (nowM M th).isSome].toArray) ∧ SH B w' (machA m pk M :: L) := fun hi e => by
  refine (busy_idle g w m role vth vpk vhi ov tb pk M th h1.body hi).mono ?_
  rintro e' w' ⟨rfl, hb⟩
  rw [e]
  exact ⟨rfl, h.bel hb⟩
 by_cases h0 : th < 0
 ·exact idle (.inl h0) (by unfold nowM; rw [if_pos h0])
 ·obtain ⟨i, rfl⟩ := Int.eq_ofNat_of_zero_le (Int.not_lt.1 h0)
  cases hi : M.threads[i]? with
  | none =>
   have hl := List.getElem?_eq_none_iff.1 hi
   exact idle (.inr (.inl (by omega))) (by unfold nowM; rw [if_neg h0]; simp [hi])
  | some t =>
   cases hc : t.present with
   | none => exact idle (.inr (.inr ⟨i, t, rfl, hi, hc⟩)) (by unfold nowM; rw [if_neg h0]; simp [hi, hc])
   | some c =>
    refine (busy_some g w m role vth vpk vhi ov tb pk M i t c h1.body hi hc).mono ?_
    rintro e' w' ⟨rfl, hb⟩
    have e : nowM M (i : Nat) = some (t.index, accX c) := by unfold nowM; rw [if_neg h0]; simp [hi, hc]
    rw [e, accC_X]
    exact ⟨rfl, h.bel hb⟩
def frz (W0 : World) : As where
 p w O R := Below W0.heap.size W0 w ∧ (∀ k, ¬ O k) ∧ ∀ k, R k ↔ k < W0.heap.size
 loc {w w' O R} h hz hk := ⟨⟨hz.1.trans h.1.os, hz.2.1.trans h.1.tape, hz.2.2.1.trans h.1.output, Nat.le_trans h.1.size hz.2.2.2, fun k hl => (hk k (.inr ((h.2.2 k).2 hl))).trans (h.1.block k hl)⟩, h.2⟩
 dom {w O R k} h hk := hk.elim (fun ho => absurd ho (h.2.1 k)) (fun hr => Nat.lt_of_lt_of_le ((h.2.2 k).1 hr) h.1.size)
 dis {w O R k} h ho := absurd ho (h.2.1 k)
end Go.Proofs.YtjlgchdekhmnnaaGreatDoor
namespace Go.E
open Go.Proofs.YtjlgchdekhmnnaaGreatDoor Go.RowKit
theorem SH.frz (w : World) : SH w w [frz w] :=
 ⟨⟨rfl, rfl, rfl⟩, fun _ _ => False, fun _ k => k < w.heap.size, fun i a ha => by
  cases i with
  | zero => simp only [List.getElem?_cons_zero, Option.some.injEq] at ha; subst ha; exact ⟨Below.refl _ _, fun _ h => h, fun _ => Iff.rfl⟩
  | succ i => simp at ha, fun i j k hij hi hj => by simp at hi hj; omega⟩
end Go.E
namespace Go.Proofs.YtjlgchdekhmnnaaGreatDoor
def Whole (A : As) : Prop := ∀ w O R, A.p w O R → ∀ k, ¬ R k
theorem Whole.osl (e : TypeId) (sz : Nat) (v : Value) (n : Nat) (xs : List Value) : Whole (osl e sz v n xs) := fun w O R h => h.2.2
theorem Whole.bl (b : Nat) (cs : List Value) (t : TypeId) : Whole (bl b cs t) := fun w O R h => h.2.2
end Go.Proofs.YtjlgchdekhmnnaaGreatDoor
namespace Go.E
open Go.Proofs.YtjlgchdekhmnnaaGreatDoor Go.RowKit
theorem SH.thaw {B w w' : World} {L : List As} (h : SH B w L) : ∀ {L' : List As}, SH w w' (L' ++ [Go.Proofs.YtjlgchdekhmnnaaGreatDoor.frz w]) → (∀ A ∈ L', Whole A) → SH B w' (L' ++ L) := by
 intro L' h' hw
 obtain ⟨hs, O, R, h1, h2⟩ := h
 obtain ⟨hs', O', R', h1', h2'⟩ := h'
 have hlt : ∀ i k, i < L.length → O i k ∨ R i k → k < w.heap.size := fun i k hi hk => L[i].dom (h1 i _ (List.getElem?_eq_getElem hi)) hk
 have hf := h1' L'.length (Go.Proofs.YtjlgchdekhmnnaaGreatDoor.frz w) (by rw [List.getElem?_append_right (Nat.le_refl _)]; simp)
 have hO : ∀ i k, i < L'.length → O' i k → w.heap.size ≤ k := fun i k hi ho => by
  have := (h2' i L'.length k (by omega) (by simp; omega) (by simp) ho).2
  rw [hf.2.2] at this; omega
 have hR : ∀ i k, i < L'.length → ¬ R' i k := fun i k hi => hw _ (List.getElem_mem hi) w' _ _ (h1' i _ (by rw [List.getElem?_append_left hi, List.getElem?_eq_getElem hi])) k
 refine ⟨⟨hf.1.os.trans hs.1, hf.1.tape.trans hs.2.1, hf.1.output.trans hs.2.2⟩, fun i => if i < L'.length then O' i else O (i - L'.length), fun i => if i < L'.length then R' i else R (i - L'.length), fun i a ha => ?_, fun i j k hij hi hj => ?_⟩
 ·by_cases hi : i < L'.length
  ·dsimp only; rw [if_pos hi, if_pos hi]
   refine h1' i a ?_
   rw [List.getElem?_append_left hi] at ha ⊢; exact ha
  ·dsimp only; rw [if_neg hi, if_neg hi]
   rw [List.getElem?_append_right (by omega)] at ha
   have hl := (List.getElem?_eq_some_iff.1 ha).1
   exact a.loc (h1 _ a ha) ⟨hf.1.os, hf.1.tape, hf.1.output, hf.1.size⟩ (fun k hk => hf.1.block k (hlt _ k hl hk))
 ·rw [List.length_append] at hi hj
  dsimp only
  by_cases a : i < L'.length <;> by_cases b : j < L'.length
  ·rw [if_pos a, if_pos b, if_pos b]; exact h2' i j k hij (by simp; omega) (by simp; omega)
  ·rw [if_pos a, if_neg b, if_neg b]
   intro ho
   have := hO i k a ho
   exact ⟨fun hx => by have := hlt _ k (by omega) (.inl hx); omega, fun hx => by have := hlt _ k (by omega) (.inr hx); omega⟩
  ·rw [if_neg a, if_pos b, if_pos b]
   intro ho
   have := hlt _ k (by omega) (.inl ho)
   exact ⟨fun hx => by have := hO j k b hx; omega, hR j k b⟩
  ·rw [if_neg a, if_neg b, if_neg b]
   exact h2 _ _ k (by omega) (by omega) (by omega)
end Go.E
namespace Go.Proofs.YtjlgchdekhmnnaaGreatDoor
end Go.Proofs.YtjlgchdekhmnnaaGreatDoor
namespace Go.E
open Go.Proofs.YtjlgchdekhmnnaaGreatDoor Go.RowKit
theorem SH.old {B w W0 : World} {L : List As} (h : SH B w L) (m' : At L (Go.Proofs.YtjlgchdekhmnnaaGreatDoor.frz W0)) : Below W0.heap.size W0 w := by
 obtain ⟨_, _, h1⟩ := h.at_ m'; exact h1.1
end Go.E
namespace Go.Proofs.YtjlgchdekhmnnaaGreatDoor
end Go.Proofs.YtjlgchdekhmnnaaGreatDoor
namespace Go.E
open Go.Proofs.YtjlgchdekhmnnaaGreatDoor Go.RowKit
theorem SH.oldRow {B w W0 : World} {L : List As} (h : SH B w L) (m' : At L (Go.Proofs.YtjlgchdekhmnnaaGreatDoor.frz W0)) {base : Nat} {e : TypeId} {sz n : Nat} {v : Value} {xs : List Value} (hr : W0.ownsRow base e sz v n xs) : SH B w (rsl sz v n xs :: L) := h.dup m' fun O R hA => by
 refine ⟨fun k => v.ownBlock = some k, ⟨?_, fun _ h => h, fun _ => Iff.rfl⟩, fun k hk => (hA.2.2 k).2 (hr.lt k hk).2⟩
 refine ⟨hr.1, ?_⟩
 have hh := hr
 rcases hr.2 with h1 | ⟨b, cap, cur, rfl, hb, hg, hc, hm, rest⟩
 ·exact .inl h1
 ·have hl : b < W0.heap.size := (Array.getElem?_eq_some_iff.1 hg).1
  refine .inr ⟨b, 0, cap, rfl, Nat.lt_of_lt_of_le hl hA.1.size, hc, hm, fun j u hu => ?_⟩
  rw [Nat.zero_add]
  have := hh.cellAt j (by have := (List.getElem?_eq_some_iff.1 hu).1; have := hh.1; omega)
  rw [hu] at this
  exact (World.cell?_of_block (hA.1.block b hl)).trans this
end Go.E
namespace Go.Proofs.YtjlgchdekhmnnaaGreatDoor
end Go.Proofs.YtjlgchdekhmnnaaGreatDoor
namespace Go.E
open Go.Proofs.YtjlgchdekhmnnaaGreatDoor Go.RowKit
theorem SH.oldBlk {B w W0 : World} {L : List As} (h : SH B w L) (m' : At L (Go.Proofs.YtjlgchdekhmnnaaGreatDoor.frz W0)) {b : Nat} {cs : List Value} {t : TypeId} (hr : W0.heap[b]? = some (.cells cs.toArray t (0, 0))) : SH B w (rb b cs t :: L) := h.dup m' fun O R hA =>
 have hl : b < W0.heap.size := (Array.getElem?_eq_some_iff.1 hr).1
 ⟨fun k => k = b, ⟨(hA.1.block b hl).trans hr, fun _ h => h, fun _ => Iff.rfl⟩, fun k hk => (hA.2.2 k).2 (hk ▸ hl)⟩
end Go.E
namespace Go.Proofs.YtjlgchdekhmnnaaGreatDoor
end Go.Proofs.YtjlgchdekhmnnaaGreatDoor
end
