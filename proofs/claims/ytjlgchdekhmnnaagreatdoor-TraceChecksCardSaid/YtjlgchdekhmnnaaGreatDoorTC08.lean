/- Parts of a proof: Tw, Tyx. -/
import Derived.Test.YtjlgchdekhmnnaaGreatDoorTC06
import Derived.Test.YtjlgchdekhmnnaaGreatDoorTC07
import Derived.Test.YtjlgchdekhmnnaaGreatDoorTC04
set_option linter.unusedVariables false
set_option linter.unusedSimpArgs false
section
namespace Go.Ct
theorem fi_end {xs : List Int} {l : List Ent} {k : Nat} (h : l.length ≤ k) : fitsF xs (l.drop k) k = (k, xs, 0) := by rw [List.drop_eq_nil_of_le h]; rfl
theorem fi_bad {xs : List Int} {l : List Ent} {k : Nat} (h : k < l.length) (hb : fitBad xs (l.getD k {}) = true) : fitsF xs (l.drop k) k = (k, xs, 1) := by
 rw [drop_get h {}]; unfold fitsF; rw [if_pos hb]
theorem fi_not {xs : List Int} {l : List Ent} {k : Nat} (h : k < l.length) (hb : fitBad xs (l.getD k {}) = false) (hn : fitNot (xs.getD ((l.getD k {}).acc.cell.toNat - 1) 0) (l.getD k {}) = true) : fitsF xs (l.drop k) k = (k, xs, 8) := by
 rw [drop_get h {}]; unfold fitsF; rw [if_neg (by rw [hb]; decide), if_pos hn]
theorem fi_step {xs : List Int} {l : List Ent} {k : Nat} (h : k < l.length) (hb : fitBad xs (l.getD k {}) = false) (hn : fitNot (xs.getD ((l.getD k {}).acc.cell.toNat - 1) 0) (l.getD k {}) = false) : fitsF xs (l.drop k) k = fitsF (fitNext xs (l.getD k {})) (l.drop (k + 1)) (k + 1) := by
 rw [drop_get h {}]; simp only [fitsF]; rw [if_neg (by rw [hb]; decide), if_neg (by rw [hn]; decide)]
end Go.Ct
namespace Go.Proofs.YtjlgchdekhmnnaaGreatDoor
open Go.RowKit Go.E
theorem fitBad_F {xs : List Int} {x : Ct.Ent} (hk : x.acc.kind = 1 ∨ x.acc.kind = 2) (h1 : 1 ≤ x.acc.cell) (h2 : x.acc.cell ≤ xs.length) : Ct.fitBad xs x = false := by
 unfold Ct.fitBad
 rw [decide_eq_false (show ¬ x.acc.cell < 1 by omega), decide_eq_false (show ¬ x.acc.cell > xs.length by omega)]
 rcases hk with h | h <;> simp [h]
theorem fitBad_T {xs : List Int} {x : Ct.Ent} (h : (x.acc.kind ≠ 1 ∧ x.acc.kind ≠ 2) ∨ x.acc.cell < 1 ∨ x.acc.cell > xs.length) : Ct.fitBad xs x = true := by
 unfold Ct.fitBad
 rcases h with ⟨h1, h2⟩ | h | h
 ·simp [h1, h2]
 ·simp [h]
 ·simp [h]
theorem fitNot_F {c : Int} {x : Ct.Ent} (h : (x.acc.kind = 1 ∧ x.loaded = c ∧ x.swapped = false) ∨ (x.acc.kind = 2 ∧ x.swapped = (c == x.acc.old) ∧ x.loaded = 0)) : Ct.fitNot c x = false := by
 unfold Ct.fitNot
 rcases h with ⟨h1, h2, h3⟩ | ⟨h1, h2, h3⟩
 ·rw [h1, h2, h3]; simp
 ·rw [h1, h2, h3]; simp
theorem fitNot_T {c : Int} {x : Ct.Ent} (h : (x.acc.kind = 1 ∧ (x.loaded ≠ c ∨ x.swapped = true)) ∨ (x.acc.kind = 2 ∧ (x.swapped ≠ (c == x.acc.old) ∨ x.loaded ≠ 0))) : Ct.fitNot c x = true := by
 unfold Ct.fitNot
 rcases h with ⟨h1, h2⟩ | ⟨h1, h2⟩
 ·rw [h1]; rcases h2 with h2 | h2 <;> simp [h2]
 ·rw [h1]; rcases h2 with h2 | h2 <;> simp [h2]
set_option maxRecDepth 100000 in
theorem Fits_any {B w : World} {L : List As} (xs : List Int) (p : Option Addr) (c : Nat) (hl : xs.length ≤ 1000000) (le : List Ct.Ent) (pe : Option Addr) (ce : Nat) (hle : le.length ≤ 1000000) (h : SH B w (rsl 1 (.slice p xs.length c) xs.length (xs.map (Value.int .i64)) :: rsl 7 (.slice pe le.length ce) le.length (le.flatMap entC) :: L)) :
  Calls Tryz.prog 34 #[.slice p xs.length c, .slice pe le.length ce] w fun e w' => ∃ p9 c9 n, (Ct.fitsF xs le 0).2.1.length = n ∧ e = .returned (.tuple [.int .i64 (((Ct.fitsF xs le 0).1 : Nat) : Int), .slice p9 n c9, .int .i64 (Ct.fitsF xs le 0).2.2].toArray) ∧ SH B w' (rsl 1 (.slice p9 n c9) n ((Ct.fitsF xs le 0).2.1.map (Value.int .i64)) :: rsl 1 (.slice p xs.length c) xs.length (xs.map (Value.int .i64)) :: rsl 7 (.slice pe le.length ce) le.length (le.flatMap entC) :: L) := by
 refine bgn (args := [_, _]) Tryz.func34 rfl Tryz.ntmps34 rfl ?_
 refine sq <| rg <| st (sg rfl) <| st (sg rfl) <| st (sg rfl) <| xe <| nx <| sq <| rg <| sf (bu [] h sl_56 ss_40 rfl (by kernel_rfl) rfl (by decide) (by decide)) <| ?_
 rintro _ w ⟨b1, rfl, h⟩
 refine st (mv rfl) <| sf (apr h a1 a0 sl_56 rfl ss_40 rfl (by decide) rfl rfl (fun _ => u0) (ones_ints _) (Nat.zero_add _) (List.nil_append _) (by unfold maxLen; omega) (by omega)) <| ?_
 rintro _ w ⟨p2, c3, rfl, h⟩
 refine st (sg rfl) <| xe <| nx <| sq <| sq <| rg <| st (sg rfl) <| xe <| nx <| bk <| ?_
 have hlm := h.lm a0
 unfold maxLen at hlm
 refine lp (α := Nat × List Int) (fun x => (.c 1 (.slice pe le.length ce) (.c 7 (.slice p2 xs.length c3) (.c 8 (.int .i64 ((x.1 : Nat) : Int)) .n)))) (fun x w => SH B w (osl 40 1 (.slice p2 xs.length c3) xs.length (x.2.map (Value.int .i64)) :: rsl 7 (.slice pe le.length ce) le.length (le.flatMap entC) :: rsl 1 (.slice p xs.length c) xs.length (xs.map (Value.int .i64)) :: L) ∧ (x.1 ≤ le.length) ∧ (x.2.length = xs.length) ∧ (Ct.fitsF xs le 0 = Ct.fitsF x.2 (le.drop x.1) x.1)) (fun x => le.length - x.1) (0, xs) ⟨rfl, rfl, rfl, trivial⟩ ⟨(h.fr (.c r0 (.c r1 (.c r0 .n)))), Nat.zero_le _, rfl, rfl⟩ ?_
 rintro ⟨k, ys⟩ w ⟨h, hk, hn, hE⟩
 dsimp only at *
 refine sq <| sq <| rg <| st (mv rfl) <| st (mv rfl) <| st (ln sl_69 rfl rfl) <| st (bi rfl rfl rfl) <| xe <| nx <| ?_
 rcases Bool.eq_false_or_eq_true (decide ((((k : Nat) : Int) : Int) < ((le.length : Nat) : Int))) with hd4 | hd4
 ·have hg5 := of_decide_eq_true hd4
  refine ct rfl hd4 <| sk <| nx <| sq <| bk <| sq <| rg <| st (mv rfl) <| st (mv rfl) <| ?_
  obtain ⟨b6, o7, rfl⟩ := h.fq a1 (by omega)
  refine st (ix (j := k) sl_69 sz_75 rfl rfl (by omega)) <| st (fa fo_75_1 rfl) <| st (ldr (cs := [.int .i64 ((le.getD k {}).acc.kind), .int .i64 ((le.getD k {}).acc.cell), .int .i64 ((le.getD k {}).acc.old), .int .i64 ((le.getD k {}).acc.new)]) rfl (rows_sub ((h.rr a1).x entC_len (by decide) (by omega) {}) 1 rfl) row_73) <| sf (al h zc_73) <| ?_
  rintro _ w ⟨b8, rfl, h⟩
  refine sf (so h rfl rfl rfl sz_73 rfl (.r (.r (.r (.r .d)))) u0) <| ?_
  rintro _ w h
  refine xe <| nx <| sq <| sq <| rg <| st (fa fo_73_0 rfl) <| st (ld one_3 rfl (h.c a0 rfl)) <| st (bi rfl rfl rfl) <| st (mv rfl) <| ?_
  rcases Bool.eq_false_or_eq_true (((le.getD k {}).acc.kind : Int) != 1) with hd9 | hd9
  ·have hg10 := bne_iff_ne.1 hd9
   refine gT rfl rfl hd9 <| st (fa fo_73_0 rfl) <| gT rfl rfl hd9 <| st (ld one_3 rfl (h.c a0 rfl)) <| gT rfl rfl hd9 <| st (bi rfl rfl rfl) <| st (pT rfl hd9 rfl) <| st (mv rfl) <| ?_
   rcases Bool.eq_false_or_eq_true (((le.getD k {}).acc.kind : Int) != 2) with hd11 | hd11
   ·have hg12 := bne_iff_ne.1 hd11
    refine gF rfl rfl hd11 <| gF rfl rfl hd11 <| gF rfl rfl hd11 <| st (pT rfl hd11 rfl) <| st (mv rfl) <| gF rfl rfl rfl <| gF rfl rfl rfl <| gF rfl rfl rfl <| gF rfl rfl rfl <| gF rfl rfl rfl <| st (pT rfl rfl rfl) <| xe <| nx <| cT rfl <| sq <| rg <| st (mv rfl) <| st (mv rfl) <| st (sg rfl) <| st (sg rfl) <| st (sg rfl) <| xe <| nx <| rt <| tr <| bt <| tr <| tr <| bt <| tr <| ?_
    have hb : Ct.fitBad ys (le.getD k {}) = true := fitBad_T (by omega)
    have hR := hE.trans (Ct.fi_bad (by omega) hb)
    refine rr (res3 Tryz.results34 rfl rfl rfl) <| ?_
    rw [hR]; exact ⟨_, _, _, hn, rfl, ((h.drop.fr (.c r0 (.c r1 (.c r0 .n))))).fz⟩
   ·have hg13 := eq_of_bneF hd11
    refine gT rfl rfl hd11 <| st (fa fo_73_1 rfl) <| gT rfl rfl hd11 <| st (ld one_41 rfl (h.c a0 rfl)) <| gT rfl rfl hd11 <| st (bi rfl rfl rfl) <| st (pF rfl hd11 rfl) <| st (mv rfl) <| ?_
    rcases Bool.eq_false_or_eq_true (decide (((le.getD k {}).acc.cell : Int) < 1)) with hd14 | hd14
    ·have hg15 := of_decide_eq_true hd14
     refine gF rfl rfl hd14 <| gF rfl rfl hd14 <| gF rfl rfl hd14 <| gF rfl rfl hd14 <| gF rfl rfl hd14 <| st (pT rfl hd14 rfl) <| xe <| nx <| cT rfl <| sq <| rg <| st (mv rfl) <| st (mv rfl) <| st (sg rfl) <| st (sg rfl) <| st (sg rfl) <| xe <| nx <| rt <| tr <| bt <| tr <| tr <| bt <| tr <| ?_
     have hb : Ct.fitBad ys (le.getD k {}) = true := fitBad_T (by omega)
     have hR := hE.trans (Ct.fi_bad (by omega) hb)
     refine rr (res3 Tryz.results34 rfl rfl rfl) <| ?_
     rw [hR]; exact ⟨_, _, _, hn, rfl, ((h.drop.fr (.c r0 (.c r1 (.c r0 .n))))).fz⟩
    ·have hg16 := of_decide_eq_false hd14
     refine gT rfl rfl hd14 <| st (fa fo_73_1 rfl) <| gT rfl rfl hd14 <| st (ld one_41 rfl (h.c a0 rfl)) <| gT rfl rfl hd14 <| st (mv rfl) <| gT rfl rfl hd14 <| st (ln sl_56 rfl rfl) <| gT rfl rfl hd14 <| st (bi rfl rfl rfl) <| st (pF rfl hd14 rfl) <| xe <| nx <| ?_
     rcases Bool.eq_false_or_eq_true (decide (((le.getD k {}).acc.cell : Int) > ((xs.length : Nat) : Int))) with hd17 | hd17
     ·have hg18 := of_decide_eq_true hd17
      refine ct rfl hd17 <| sq <| rg <| st (mv rfl) <| st (mv rfl) <| st (sg rfl) <| st (sg rfl) <| st (sg rfl) <| xe <| nx <| rt <| tr <| bt <| tr <| tr <| bt <| tr <| ?_
      have hb : Ct.fitBad ys (le.getD k {}) = true := fitBad_T (by omega)
      have hR := hE.trans (Ct.fi_bad (by omega) hb)
      refine rr (res3 Tryz.results34 rfl rfl rfl) <| ?_
      rw [hR]; exact ⟨_, _, _, hn, rfl, ((h.drop.fr (.c r0 (.c r1 (.c r0 .n))))).fz⟩
     ·have hg19 := of_decide_eq_false hd17
      refine cf rfl hd17 <| sk <| nx <| sq <| rg <| st (mv rfl) <| st (fa fo_73_1 rfl) <| st (ld one_41 rfl (h.c a0 rfl)) <| ?_
      obtain ⟨j, hjj⟩ : ∃ j : Nat, (le.getD k {}).acc.cell = (j : Int) + 1 := ⟨((le.getD k {}).acc.cell - 1).toNat, by omega⟩
      refine st (bw rfl rfl (wsub (c := ((j : Nat) : Int)) (by omega) (by omega) (by omega))) <| ?_
      obtain ⟨b20, rfl⟩ := h.fp a1 (by omega)
      refine st (ix (j := j) sl_56 sz_40 rfl rfl (by omega)) <| st (ld one_40 rfl ((h.ro a1).i (by omega))) <| st (sg rfl) <| xe <| nx <| sq <| sq <| ?_
      rcases Bool.eq_false_or_eq_true (!(((le.getD k {}).swapped) == ((ys.getD j 0 : Int) == (le.getD k {}).acc.old))) with hd21 | hd21
      ·refine drH [1, 3, 5, 7, 9, 11, 13, 15, 17, 19, 21, 23, 25, 27, 29, 31, 33, 35, 37, 39, 41, 43, 45, 47, 49, 51, 53, 55, 57, 59, 61, 63, 65, 67, 69, 71, 73, 75, 77, 79, 81, 83, 85, 87] (by kernel_rfl) h (.c r0 (.c r1 .n)) fun w h => tk (fun W H => fa fo_73_0 rfl) <| tk (fun W H => ld one_3 rfl (H.c a0 rfl)) <| tk (fun W H => bi rfl rfl rfl) <| tk (fun W H => mv rfl) <| gFs rfl rfl (beq_eq_false_iff_ne.2 (by omega)) <| gFs rfl rfl (beq_eq_false_iff_ne.2 (by omega)) <| gFs rfl rfl (beq_eq_false_iff_ne.2 (by omega)) <| gFs rfl rfl (beq_eq_false_iff_ne.2 (by omega)) <| gFs rfl rfl (beq_eq_false_iff_ne.2 (by omega)) <| gFs rfl rfl (beq_eq_false_iff_ne.2 (by omega)) <| gFs rfl rfl (beq_eq_false_iff_ne.2 (by omega)) <| gFs rfl rfl (beq_eq_false_iff_ne.2 (by omega)) <| gUs rfl rfl <| gUs rfl rfl <| gUs rfl rfl <| gUs rfl rfl <| gUs rfl rfl <| gFs rfl rfl (beq_eq_false_iff_ne.2 (by omega)) <| tk (fun W H => pF rfl (beq_eq_false_iff_ne.2 (by omega)) rfl) <| tk (fun W H => mv rfl) <| gTs rfl rfl rfl <| tk (fun W H => fa fo_73_0 rfl) <| gTs rfl rfl rfl <| tk (fun W H => ld one_3 rfl (H.c a0 rfl)) <| gTs rfl rfl rfl <| tk (fun W H => bi rfl rfl rfl) <| gTs rfl rfl rfl <| tk (fun W H => mv rfl) <| gTs rfl rfl (beq_iff_eq.2 (by omega)) <| tk (fun W H => mv rfl) <| gTs rfl rfl (beq_iff_eq.2 (by omega)) <| tk (fun W H => mv rfl) <| gTs rfl rfl (beq_iff_eq.2 (by omega)) <| tk (fun W H => ix (j := k) sl_69 sz_75 rfl rfl (by omega)) <| gTs rfl rfl (beq_iff_eq.2 (by omega)) <| tk (fun W H => fa fo_75_3 rfl) <| gTs rfl rfl (beq_iff_eq.2 (by omega)) <| tk (fun W H => ld one_4 rfl ((H.rr a1).x entC_len (by decide) (by omega) {} 6 _ rfl)) <| gTs rfl rfl (beq_iff_eq.2 (by omega)) <| tk (fun W H => mv rfl) <| gTs rfl rfl (beq_iff_eq.2 (by omega)) <| tk (fun W H => fa fo_73_2 rfl) <| gTs rfl rfl (beq_iff_eq.2 (by omega)) <| tk (fun W H => ld one_40 rfl (H.c a0 rfl)) <| gTs rfl rfl (beq_iff_eq.2 (by omega)) <| tk (fun W H => bi rfl rfl rfl) <| gTs rfl rfl (beq_iff_eq.2 (by omega)) <| tk (fun W H => bbn un_4 rfl rfl) <| gTs rfl rfl (beq_iff_eq.2 (by omega)) <| tk (fun W H => mv rfl) <| gFs rfl rfl hd21 <| gFs rfl rfl hd21 <| gFs rfl rfl hd21 <| gFs rfl rfl hd21 <| gFs rfl rfl hd21 <| gFs rfl rfl hd21 <| gTs rfl rfl (beq_iff_eq.2 (by omega)) <| tk (fun W H => pT rfl hd21 rfl) <| gTs rfl rfl rfl <| tk (fun W H => pT rfl (beq_iff_eq.2 (by omega)) rfl) <| tk (fun W H => pF rfl rfl rfl) <| xz <| nx <| cT rfl <| sq <| rg <| st (mv rfl) <| st (mv rfl) <| st (sg rfl) <| st (sg rfl) <| st (sg rfl) <| xe <| nx <| rt <| tr <| bt <| tr <| tr <| bt <| tr <| ?_
       have k2 : (le.getD k {}).acc.kind = 2 := by omega
       have hb : Ct.fitBad ys (le.getD k {}) = false := fitBad_F (by omega) (by omega) (by omega)
       have htj : (le.getD k {}).acc.cell.toNat - 1 = j := by omega
       have hq := fitNot_T (c := ys.getD j 0) (.inr ⟨k2, .inl (by simpa using hd21)⟩)
       have hR := hE.trans (Ct.fi_not (by omega) hb (by rw [htj]; exact hq))
       refine rr (res3 Tryz.results34 rfl rfl rfl) <| ?_
       rw [hR]; exact ⟨_, _, _, hn, rfl, ((h.drop.fr (.c r0 (.c r1 (.c r0 .n))))).fz⟩
      ·refine drH [1, 3, 5, 7, 9, 11, 13, 15, 17, 19, 21, 23, 25, 27, 29, 31, 33, 35, 37, 39, 41, 43, 45, 47, 49, 51, 53, 55, 57, 59, 61, 63, 65, 67, 69, 71, 73, 75, 77, 79, 81, 83, 85, 87] (by kernel_rfl) h (.c r0 (.c r1 .n)) fun w h => tk (fun W H => fa fo_73_0 rfl) <| tk (fun W H => ld one_3 rfl (H.c a0 rfl)) <| tk (fun W H => bi rfl rfl rfl) <| tk (fun W H => mv rfl) <| gFs rfl rfl (beq_eq_false_iff_ne.2 (by omega)) <| gFs rfl rfl (beq_eq_false_iff_ne.2 (by omega)) <| gFs rfl rfl (beq_eq_false_iff_ne.2 (by omega)) <| gFs rfl rfl (beq_eq_false_iff_ne.2 (by omega)) <| gFs rfl rfl (beq_eq_false_iff_ne.2 (by omega)) <| gFs rfl rfl (beq_eq_false_iff_ne.2 (by omega)) <| gFs rfl rfl (beq_eq_false_iff_ne.2 (by omega)) <| gFs rfl rfl (beq_eq_false_iff_ne.2 (by omega)) <| gUs rfl rfl <| gUs rfl rfl <| gUs rfl rfl <| gUs rfl rfl <| gUs rfl rfl <| gFs rfl rfl (beq_eq_false_iff_ne.2 (by omega)) <| tk (fun W H => pF rfl (beq_eq_false_iff_ne.2 (by omega)) rfl) <| tk (fun W H => mv rfl) <| gTs rfl rfl rfl <| tk (fun W H => fa fo_73_0 rfl) <| gTs rfl rfl rfl <| tk (fun W H => ld one_3 rfl (H.c a0 rfl)) <| gTs rfl rfl rfl <| tk (fun W H => bi rfl rfl rfl) <| gTs rfl rfl rfl <| tk (fun W H => mv rfl) <| gTs rfl rfl (beq_iff_eq.2 (by omega)) <| tk (fun W H => mv rfl) <| gTs rfl rfl (beq_iff_eq.2 (by omega)) <| tk (fun W H => mv rfl) <| gTs rfl rfl (beq_iff_eq.2 (by omega)) <| tk (fun W H => ix (j := k) sl_69 sz_75 rfl rfl (by omega)) <| gTs rfl rfl (beq_iff_eq.2 (by omega)) <| tk (fun W H => fa fo_75_3 rfl) <| gTs rfl rfl (beq_iff_eq.2 (by omega)) <| tk (fun W H => ld one_4 rfl ((H.rr a1).x entC_len (by decide) (by omega) {} 6 _ rfl)) <| gTs rfl rfl (beq_iff_eq.2 (by omega)) <| tk (fun W H => mv rfl) <| gTs rfl rfl (beq_iff_eq.2 (by omega)) <| tk (fun W H => fa fo_73_2 rfl) <| gTs rfl rfl (beq_iff_eq.2 (by omega)) <| tk (fun W H => ld one_40 rfl (H.c a0 rfl)) <| gTs rfl rfl (beq_iff_eq.2 (by omega)) <| tk (fun W H => bi rfl rfl rfl) <| gTs rfl rfl (beq_iff_eq.2 (by omega)) <| tk (fun W H => bbn un_4 rfl rfl) <| gTs rfl rfl (beq_iff_eq.2 (by omega)) <| tk (fun W H => mv rfl) <| gTs rfl rfl hd21 <| tk (fun W H => mv rfl) <| gTs rfl rfl hd21 <| tk (fun W H => mv rfl) <| gTs rfl rfl hd21 <| tk (fun W H => ix (j := k) sl_69 sz_75 rfl rfl (by omega)) <| gTs rfl rfl hd21 <| tk (fun W H => fa fo_75_2 rfl) <| gTs rfl rfl hd21 <| tk (fun W H => ld one_40 rfl ((H.rr a1).x entC_len (by decide) (by omega) {} 5 _ rfl)) <| gTs rfl rfl hd21 <| tk (fun W H => bi rfl rfl rfl) <| gTs rfl rfl (beq_iff_eq.2 (by omega)) <| tk (fun W H => pF rfl hd21 rfl) <| gTs rfl rfl rfl <| tk (fun W H => pT rfl (beq_iff_eq.2 (by omega)) rfl) <| tk (fun W H => pF rfl rfl rfl) <| xz <| nx <| ?_
       rcases Bool.eq_false_or_eq_true (((le.getD k {}).loaded : Int) != 0) with hd22 | hd22
       ·have hg23 := bne_iff_ne.1 hd22
        refine ct rfl hd22 <| sq <| rg <| st (mv rfl) <| st (mv rfl) <| st (sg rfl) <| st (sg rfl) <| st (sg rfl) <| xe <| nx <| rt <| tr <| bt <| tr <| tr <| bt <| tr <| ?_
        have k2 : (le.getD k {}).acc.kind = 2 := by omega
        have hb : Ct.fitBad ys (le.getD k {}) = false := fitBad_F (by omega) (by omega) (by omega)
        have htj : (le.getD k {}).acc.cell.toNat - 1 = j := by omega
        have hq := fitNot_T (c := ys.getD j 0) (.inr ⟨k2, .inr (bne_iff_ne.1 hd22)⟩)
        have hR := hE.trans (Ct.fi_not (by omega) hb (by rw [htj]; exact hq))
        refine rr (res3 Tryz.results34 rfl rfl rfl) <| ?_
        rw [hR]; exact ⟨_, _, _, hn, rfl, ((h.drop.fr (.c r0 (.c r1 (.c r0 .n))))).fz⟩
       ·have hg24 := eq_of_bneF hd22
        refine cf rfl hd22 <| sk <| nx <| sq <| rg <| st (fa fo_73_0 rfl) <| st (ld one_3 rfl (h.c a0 rfl)) <| st (bi rfl rfl rfl) <| st (mv rfl) <| gT rfl rfl (beq_iff_eq.2 (by omega)) <| st (mv rfl) <| gT rfl rfl (beq_iff_eq.2 (by omega)) <| st (mv rfl) <| gT rfl rfl (beq_iff_eq.2 (by omega)) <| st (ix (j := k) sl_69 sz_75 rfl rfl (by omega)) <| gT rfl rfl (beq_iff_eq.2 (by omega)) <| st (fa fo_75_3 rfl) <| gT rfl rfl (beq_iff_eq.2 (by omega)) <| st (ld one_4 rfl ((h.rr a2).x entC_len (by decide) (by omega) {} 6 _ rfl)) <| st (pT rfl (beq_iff_eq.2 (by omega)) rfl) <| xe <| nx <| ?_
        rcases Bool.eq_false_or_eq_true ((le.getD k {}).swapped) with hd25 | hd25
        ·refine ct rfl hd25 <| rg <| st (mv rfl) <| st (fa fo_73_1 rfl) <| st (ld one_41 rfl (h.c a0 rfl)) <| st (bw rfl rfl (wsub (c := ((j : Nat) : Int)) (by omega) (by omega) (by omega))) <| st (fa fo_73_3 rfl) <| st (ld one_40 rfl (h.c a0 rfl)) <| st (ix (j := j) sl_56 sz_40 rfl rfl (by omega)) <| sf (soi h sz_40 rfl rfl (by omega) u1) <| ?_
         rintro _ w h
         refine xe <| bn <| nx <| rg <| st (mv rfl) <| st (bw rfl rfl (wadd (c := ((k + 1 : Nat) : Int)) (by omega) (by omega) (by omega))) <| st (sg rfl) <| xe <| nx <| ?_
         have k2 : (le.getD k {}).acc.kind = 2 := by omega
         have hb : Ct.fitBad ys (le.getD k {}) = false := fitBad_F (by omega) (by omega) (by omega)
         have htj : (le.getD k {}).acc.cell.toNat - 1 = j := by omega
         have hN : Ct.fitNext ys (le.getD k {}) = ys.set ((le.getD k {}).acc.cell.toNat - 1) (le.getD k {}).acc.new := by unfold Ct.fitNext; rw [if_pos ⟨k2, hd25⟩]
         rw [htj] at hN
         have hq := fitNot_F (c := ys.getD j 0) (.inr ⟨k2, by simpa using hd21, eq_of_bneF hd22⟩)
         exact ⟨(k + 1, ys.set j (le.getD k {}).acc.new), ⟨rfl, rfl, rfl, trivial⟩, ⟨h.drop, by (try dsimp only); omega, by rw [List.length_set]; exact hn, by rw [hE, Ct.fi_step (by omega) hb (by rw [htj]; exact hq), hN]⟩, by (try dsimp only); omega⟩
        ·refine cf rfl hd25 <| sk <| bn <| nx <| rg <| st (mv rfl) <| st (bw rfl rfl (wadd (c := ((k + 1 : Nat) : Int)) (by omega) (by omega) (by omega))) <| st (sg rfl) <| xe <| nx <| ?_
         have k2 : (le.getD k {}).acc.kind = 2 := by omega
         have hb : Ct.fitBad ys (le.getD k {}) = false := fitBad_F (by omega) (by omega) (by omega)
         have htj : (le.getD k {}).acc.cell.toNat - 1 = j := by omega
         have hN : Ct.fitNext ys (le.getD k {}) = ys := by unfold Ct.fitNext; rw [if_neg]; rintro ⟨q1, q2⟩; rw [hd25] at q2; cases q2
         have hq := fitNot_F (c := ys.getD j 0) (.inr ⟨k2, by simpa using hd21, eq_of_bneF hd22⟩)
         exact ⟨(k + 1, ys), ⟨rfl, rfl, rfl, trivial⟩, ⟨h.drop, by (try dsimp only); omega, hn, by rw [hE, Ct.fi_step (by omega) hb (by rw [htj]; exact hq), hN]⟩, by (try dsimp only); omega⟩
  ·have hg26 := eq_of_bneF hd9
   refine gF rfl rfl hd9 <| gF rfl rfl hd9 <| gF rfl rfl hd9 <| st (pF rfl hd9 rfl) <| st (mv rfl) <| gT rfl rfl rfl <| st (fa fo_73_1 rfl) <| gT rfl rfl rfl <| st (ld one_41 rfl (h.c a0 rfl)) <| gT rfl rfl rfl <| st (bi rfl rfl rfl) <| st (pF rfl rfl rfl) <| st (mv rfl) <| ?_
   rcases Bool.eq_false_or_eq_true (decide (((le.getD k {}).acc.cell : Int) < 1)) with hd27 | hd27
   ·have hg28 := of_decide_eq_true hd27
    refine gF rfl rfl hd27 <| gF rfl rfl hd27 <| gF rfl rfl hd27 <| gF rfl rfl hd27 <| gF rfl rfl hd27 <| st (pT rfl hd27 rfl) <| xe <| nx <| cT rfl <| sq <| rg <| st (mv rfl) <| st (mv rfl) <| st (sg rfl) <| st (sg rfl) <| st (sg rfl) <| xe <| nx <| rt <| tr <| bt <| tr <| tr <| bt <| tr <| ?_
    have hb : Ct.fitBad ys (le.getD k {}) = true := fitBad_T (by omega)
    have hR := hE.trans (Ct.fi_bad (by omega) hb)
    refine rr (res3 Tryz.results34 rfl rfl rfl) <| ?_
    rw [hR]; exact ⟨_, _, _, hn, rfl, ((h.drop.fr (.c r0 (.c r1 (.c r0 .n))))).fz⟩
   ·have hg29 := of_decide_eq_false hd27
    refine gT rfl rfl hd27 <| st (fa fo_73_1 rfl) <| gT rfl rfl hd27 <| st (ld one_41 rfl (h.c a0 rfl)) <| gT rfl rfl hd27 <| st (mv rfl) <| gT rfl rfl hd27 <| st (ln sl_56 rfl rfl) <| gT rfl rfl hd27 <| st (bi rfl rfl rfl) <| st (pF rfl hd27 rfl) <| xe <| nx <| ?_
    rcases Bool.eq_false_or_eq_true (decide (((le.getD k {}).acc.cell : Int) > ((xs.length : Nat) : Int))) with hd30 | hd30
    ·have hg31 := of_decide_eq_true hd30
     refine ct rfl hd30 <| sq <| rg <| st (mv rfl) <| st (mv rfl) <| st (sg rfl) <| st (sg rfl) <| st (sg rfl) <| xe <| nx <| rt <| tr <| bt <| tr <| tr <| bt <| tr <| ?_
     have hb : Ct.fitBad ys (le.getD k {}) = true := fitBad_T (by omega)
     have hR := hE.trans (Ct.fi_bad (by omega) hb)
     refine rr (res3 Tryz.results34 rfl rfl rfl) <| ?_
     rw [hR]; exact ⟨_, _, _, hn, rfl, ((h.drop.fr (.c r0 (.c r1 (.c r0 .n))))).fz⟩
    ·have hg32 := of_decide_eq_false hd30
     refine cf rfl hd30 <| sk <| nx <| sq <| rg <| st (mv rfl) <| st (fa fo_73_1 rfl) <| st (ld one_41 rfl (h.c a0 rfl)) <| ?_
     obtain ⟨j, hjj⟩ : ∃ j : Nat, (le.getD k {}).acc.cell = (j : Int) + 1 := ⟨((le.getD k {}).acc.cell - 1).toNat, by omega⟩
     refine st (bw rfl rfl (wsub (c := ((j : Nat) : Int)) (by omega) (by omega) (by omega))) <| ?_
     obtain ⟨b33, rfl⟩ := h.fp a1 (by omega)
     refine st (ix (j := j) sl_56 sz_40 rfl rfl (by omega)) <| st (ld one_40 rfl ((h.ro a1).i (by omega))) <| st (sg rfl) <| xe <| nx <| sq <| sq <| ?_
     rcases Bool.eq_false_or_eq_true (((le.getD k {}).loaded : Int) != ys.getD j 0) with hd34 | hd34
     ·have hg35 := bne_iff_ne.1 hd34
      refine drH [1, 3, 5, 7, 9, 11, 13, 15, 17, 19, 21, 23, 25, 27, 29, 31, 33, 35, 37, 39, 41, 43, 45, 47, 49, 51, 53, 55, 57, 59, 61, 63, 65, 67, 69, 71, 73, 75, 77, 79, 81, 83, 85, 87] (by kernel_rfl) h (.c r0 (.c r1 .n)) fun w h => tk (fun W H => fa fo_73_0 rfl) <| tk (fun W H => ld one_3 rfl (H.c a0 rfl)) <| tk (fun W H => bi rfl rfl rfl) <| tk (fun W H => mv rfl) <| gTs rfl rfl (beq_iff_eq.2 (by omega)) <| tk (fun W H => mv rfl) <| gTs rfl rfl (beq_iff_eq.2 (by omega)) <| tk (fun W H => mv rfl) <| gTs rfl rfl (beq_iff_eq.2 (by omega)) <| tk (fun W H => ix (j := k) sl_69 sz_75 rfl rfl (by omega)) <| gTs rfl rfl (beq_iff_eq.2 (by omega)) <| tk (fun W H => fa fo_75_2 rfl) <| gTs rfl rfl (beq_iff_eq.2 (by omega)) <| tk (fun W H => ld one_40 rfl ((H.rr a1).x entC_len (by decide) (by omega) {} 5 _ rfl)) <| gTs rfl rfl (beq_iff_eq.2 (by omega)) <| tk (fun W H => mv rfl) <| gTs rfl rfl (beq_iff_eq.2 (by omega)) <| tk (fun W H => bi rfl rfl rfl) <| gTs rfl rfl (beq_iff_eq.2 (by omega)) <| tk (fun W H => mv rfl) <| gFs rfl rfl hd34 <| gFs rfl rfl hd34 <| gFs rfl rfl hd34 <| gFs rfl rfl hd34 <| gFs rfl rfl hd34 <| gTs rfl rfl (beq_iff_eq.2 (by omega)) <| tk (fun W H => pT rfl hd34 rfl) <| tk (fun W H => pT rfl (beq_iff_eq.2 (by omega)) rfl) <| tk (fun W H => mv rfl) <| gFs rfl rfl rfl <| gFs rfl rfl rfl <| gFs rfl rfl rfl <| gFs rfl rfl rfl <| gUs rfl rfl <| gUs rfl rfl <| gUs rfl rfl <| gUs rfl rfl <| gUs rfl rfl <| gUs rfl rfl <| gUs rfl rfl <| gUs rfl rfl <| gUs rfl rfl <| gUs rfl rfl <| gUs rfl rfl <| gUs rfl rfl <| gUs rfl rfl <| gUs rfl rfl <| gUs rfl rfl <| gUs rfl rfl <| gUs rfl rfl <| gUs rfl rfl <| gFs rfl rfl rfl <| tk (fun W H => pT rfl rfl rfl) <| xz <| nx <| cT rfl <| sq <| rg <| st (mv rfl) <| st (mv rfl) <| st (sg rfl) <| st (sg rfl) <| st (sg rfl) <| xe <| nx <| rt <| tr <| bt <| tr <| tr <| bt <| tr <| ?_
      have k1 : (le.getD k {}).acc.kind = 1 := by omega
      have hb : Ct.fitBad ys (le.getD k {}) = false := fitBad_F (by omega) (by omega) (by omega)
      have htj : (le.getD k {}).acc.cell.toNat - 1 = j := by omega
      have hq := fitNot_T (c := ys.getD j 0) (.inl ⟨k1, .inl (bne_iff_ne.1 hd34)⟩)
      have hR := hE.trans (Ct.fi_not (by omega) hb (by rw [htj]; exact hq))
      refine rr (res3 Tryz.results34 rfl rfl rfl) <| ?_
      rw [hR]; exact ⟨_, _, _, hn, rfl, ((h.drop.fr (.c r0 (.c r1 (.c r0 .n))))).fz⟩
     ·have hg36 := eq_of_bneF hd34
      rcases Bool.eq_false_or_eq_true ((le.getD k {}).swapped) with hd37 | hd37
      ·refine drH [1, 3, 5, 7, 9, 11, 13, 15, 17, 19, 21, 23, 25, 27, 29, 31, 33, 35, 37, 39, 41, 43, 45, 47, 49, 51, 53, 55, 57, 59, 61, 63, 65, 67, 69, 71, 73, 75, 77, 79, 81, 83, 85, 87] (by kernel_rfl) h (.c r0 (.c r1 .n)) fun w h => tk (fun W H => fa fo_73_0 rfl) <| tk (fun W H => ld one_3 rfl (H.c a0 rfl)) <| tk (fun W H => bi rfl rfl rfl) <| tk (fun W H => mv rfl) <| gTs rfl rfl (beq_iff_eq.2 (by omega)) <| tk (fun W H => mv rfl) <| gTs rfl rfl (beq_iff_eq.2 (by omega)) <| tk (fun W H => mv rfl) <| gTs rfl rfl (beq_iff_eq.2 (by omega)) <| tk (fun W H => ix (j := k) sl_69 sz_75 rfl rfl (by omega)) <| gTs rfl rfl (beq_iff_eq.2 (by omega)) <| tk (fun W H => fa fo_75_2 rfl) <| gTs rfl rfl (beq_iff_eq.2 (by omega)) <| tk (fun W H => ld one_40 rfl ((H.rr a1).x entC_len (by decide) (by omega) {} 5 _ rfl)) <| gTs rfl rfl (beq_iff_eq.2 (by omega)) <| tk (fun W H => mv rfl) <| gTs rfl rfl (beq_iff_eq.2 (by omega)) <| tk (fun W H => bi rfl rfl rfl) <| gTs rfl rfl (beq_iff_eq.2 (by omega)) <| tk (fun W H => mv rfl) <| gTs rfl rfl hd34 <| tk (fun W H => mv rfl) <| gTs rfl rfl hd34 <| tk (fun W H => mv rfl) <| gTs rfl rfl hd34 <| tk (fun W H => ix (j := k) sl_69 sz_75 rfl rfl (by omega)) <| gTs rfl rfl hd34 <| tk (fun W H => fa fo_75_3 rfl) <| gTs rfl rfl hd34 <| tk (fun W H => ld one_4 rfl ((H.rr a1).x entC_len (by decide) (by omega) {} 6 _ rfl)) <| gTs rfl rfl (beq_iff_eq.2 (by omega)) <| tk (fun W H => pF rfl hd34 rfl) <| tk (fun W H => pT rfl (beq_iff_eq.2 (by omega)) rfl) <| tk (fun W H => mv rfl) <| gFs rfl rfl hd37 <| gFs rfl rfl hd37 <| gFs rfl rfl hd37 <| gFs rfl rfl hd37 <| gUs rfl rfl <| gUs rfl rfl <| gUs rfl rfl <| gUs rfl rfl <| gUs rfl rfl <| gUs rfl rfl <| gUs rfl rfl <| gUs rfl rfl <| gUs rfl rfl <| gUs rfl rfl <| gUs rfl rfl <| gUs rfl rfl <| gUs rfl rfl <| gUs rfl rfl <| gUs rfl rfl <| gUs rfl rfl <| gUs rfl rfl <| gUs rfl rfl <| gFs rfl rfl hd37 <| tk (fun W H => pT rfl hd37 rfl) <| xz <| nx <| cT rfl <| sq <| rg <| st (mv rfl) <| st (mv rfl) <| st (sg rfl) <| st (sg rfl) <| st (sg rfl) <| xe <| nx <| rt <| tr <| bt <| tr <| tr <| bt <| tr <| ?_
       have k1 : (le.getD k {}).acc.kind = 1 := by omega
       have hb : Ct.fitBad ys (le.getD k {}) = false := fitBad_F (by omega) (by omega) (by omega)
       have htj : (le.getD k {}).acc.cell.toNat - 1 = j := by omega
       have hq := fitNot_T (c := ys.getD j 0) (.inl ⟨k1, .inr hd37⟩)
       have hR := hE.trans (Ct.fi_not (by omega) hb (by rw [htj]; exact hq))
       refine rr (res3 Tryz.results34 rfl rfl rfl) <| ?_
       rw [hR]; exact ⟨_, _, _, hn, rfl, ((h.drop.fr (.c r0 (.c r1 (.c r0 .n))))).fz⟩
      ·refine drH [1, 3, 5, 7, 9, 11, 13, 15, 17, 19, 21, 23, 25, 27, 29, 31, 33, 35, 37, 39, 41, 43, 45, 47, 49, 51, 53, 55, 57, 59, 61, 63, 65, 67, 69, 71, 73, 75, 77, 79, 81, 83, 85, 87] (by kernel_rfl) h (.c r0 (.c r1 .n)) fun w h => tk (fun W H => fa fo_73_0 rfl) <| tk (fun W H => ld one_3 rfl (H.c a0 rfl)) <| tk (fun W H => bi rfl rfl rfl) <| tk (fun W H => mv rfl) <| gTs rfl rfl (beq_iff_eq.2 (by omega)) <| tk (fun W H => mv rfl) <| gTs rfl rfl (beq_iff_eq.2 (by omega)) <| tk (fun W H => mv rfl) <| gTs rfl rfl (beq_iff_eq.2 (by omega)) <| tk (fun W H => ix (j := k) sl_69 sz_75 rfl rfl (by omega)) <| gTs rfl rfl (beq_iff_eq.2 (by omega)) <| tk (fun W H => fa fo_75_2 rfl) <| gTs rfl rfl (beq_iff_eq.2 (by omega)) <| tk (fun W H => ld one_40 rfl ((H.rr a1).x entC_len (by decide) (by omega) {} 5 _ rfl)) <| gTs rfl rfl (beq_iff_eq.2 (by omega)) <| tk (fun W H => mv rfl) <| gTs rfl rfl (beq_iff_eq.2 (by omega)) <| tk (fun W H => bi rfl rfl rfl) <| gTs rfl rfl (beq_iff_eq.2 (by omega)) <| tk (fun W H => mv rfl) <| gTs rfl rfl hd34 <| tk (fun W H => mv rfl) <| gTs rfl rfl hd34 <| tk (fun W H => mv rfl) <| gTs rfl rfl hd34 <| tk (fun W H => ix (j := k) sl_69 sz_75 rfl rfl (by omega)) <| gTs rfl rfl hd34 <| tk (fun W H => fa fo_75_3 rfl) <| gTs rfl rfl hd34 <| tk (fun W H => ld one_4 rfl ((H.rr a1).x entC_len (by decide) (by omega) {} 6 _ rfl)) <| gTs rfl rfl (beq_iff_eq.2 (by omega)) <| tk (fun W H => pF rfl hd34 rfl) <| tk (fun W H => pT rfl (beq_iff_eq.2 (by omega)) rfl) <| tk (fun W H => mv rfl) <| gTs rfl rfl hd37 <| tk (fun W H => fa fo_73_0 rfl) <| gTs rfl rfl hd37 <| tk (fun W H => ld one_3 rfl (H.c a0 rfl)) <| gTs rfl rfl hd37 <| tk (fun W H => bi rfl rfl rfl) <| gTs rfl rfl hd37 <| tk (fun W H => mv rfl) <| gFs rfl rfl (beq_eq_false_iff_ne.2 (by omega)) <| gFs rfl rfl (beq_eq_false_iff_ne.2 (by omega)) <| gFs rfl rfl (beq_eq_false_iff_ne.2 (by omega)) <| gFs rfl rfl (beq_eq_false_iff_ne.2 (by omega)) <| gFs rfl rfl (beq_eq_false_iff_ne.2 (by omega)) <| gFs rfl rfl (beq_eq_false_iff_ne.2 (by omega)) <| gFs rfl rfl (beq_eq_false_iff_ne.2 (by omega)) <| gFs rfl rfl (beq_eq_false_iff_ne.2 (by omega)) <| gFs rfl rfl (beq_eq_false_iff_ne.2 (by omega)) <| gFs rfl rfl (beq_eq_false_iff_ne.2 (by omega)) <| gFs rfl rfl (beq_eq_false_iff_ne.2 (by omega)) <| gUs rfl rfl <| gUs rfl rfl <| gUs rfl rfl <| gUs rfl rfl <| gUs rfl rfl <| gUs rfl rfl <| gFs rfl rfl (beq_eq_false_iff_ne.2 (by omega)) <| gTs rfl rfl hd37 <| tk (fun W H => pF rfl (beq_eq_false_iff_ne.2 (by omega)) rfl) <| tk (fun W H => pF rfl hd37 rfl) <| xz <| nx <| cF rfl <| sk <| nx <| sq <| rg <| st (fa fo_73_0 rfl) <| st (ld one_3 rfl (h.c a0 rfl)) <| st (bi rfl rfl rfl) <| st (mv rfl) <| gF rfl rfl (beq_eq_false_iff_ne.2 (by omega)) <| gF rfl rfl (beq_eq_false_iff_ne.2 (by omega)) <| gF rfl rfl (beq_eq_false_iff_ne.2 (by omega)) <| gF rfl rfl (beq_eq_false_iff_ne.2 (by omega)) <| gF rfl rfl (beq_eq_false_iff_ne.2 (by omega)) <| st (pF rfl (beq_eq_false_iff_ne.2 (by omega)) rfl) <| xe <| nx <| cF rfl <| sk <| bn <| nx <| rg <| st (mv rfl) <| st (bw rfl rfl (wadd (c := ((k + 1 : Nat) : Int)) (by omega) (by omega) (by omega))) <| st (sg rfl) <| xe <| nx <| ?_
       have k1 : (le.getD k {}).acc.kind = 1 := by omega
       have hb : Ct.fitBad ys (le.getD k {}) = false := fitBad_F (by omega) (by omega) (by omega)
       have htj : (le.getD k {}).acc.cell.toNat - 1 = j := by omega
       have hN : Ct.fitNext ys (le.getD k {}) = ys := by unfold Ct.fitNext; rw [if_neg]; rintro ⟨q1, q2⟩; omega
       have hq := fitNot_F (c := ys.getD j 0) (.inl ⟨k1, eq_of_bneF hd34, hd37⟩)
       exact ⟨(k + 1, ys), ⟨rfl, rfl, rfl, trivial⟩, ⟨h.drop, by (try dsimp only); omega, hn, by rw [hE, Ct.fi_step (by omega) hb (by rw [htj]; exact hq), hN]⟩, by (try dsimp only); omega⟩
 ·have hg38 := of_decide_eq_false hd4
  refine cf rfl hd4 <| xt <| tx <| tx <| be <| nx <| sq <| rg <| st (mv rfl) <| st (ln sl_69 rfl rfl) <| st (mv rfl) <| st (sg rfl) <| st (sg rfl) <| st (sg rfl) <| xe <| nx <| rt <| ?_
  obtain rfl : k = le.length := by omega
  have hR := hE.trans (Ct.fi_end (Nat.le_refl _))
  refine rr (res3 Tryz.results34 rfl rfl rfl) <| ?_
  rw [hR]; exact ⟨_, _, _, hn, rfl, ((h.fr (.c r0 (.c r1 (.c r0 .n))))).fz⟩
end Go.Proofs.YtjlgchdekhmnnaaGreatDoor
end
section
namespace Go.Proofs.YtjlgchdekhmnnaaGreatDoor
open Go.E
theorem bd_73 : bdn Tryz.prog 73 = some ([.int .i64 0, .int .i64 0, .int .i64 0, .int .i64 0], [(0, 1), (1, 1), (2, 1), (3, 1)]) := by kernel_rfl
theorem en_32 : Ents Tryz.prog 32 := enG Tryz.func32 rfl rfl
end Go.Proofs.YtjlgchdekhmnnaaGreatDoor
end
