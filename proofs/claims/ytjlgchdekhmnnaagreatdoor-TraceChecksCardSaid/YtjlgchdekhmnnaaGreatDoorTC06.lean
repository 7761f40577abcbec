/- Parts of a proof: Ts, Tyu, E6, Tu, Tyv, Tv. -/
import Derived.Test.YtjlgchdekhmnnaaGreatDoorTC05
import Derived.Test.YtjlgchdekhmnnaaGreatDoorTC04
import Derived.Laws.Small
set_option linter.unusedVariables false
set_option linter.unusedSimpArgs false
section
namespace Go.Proofs.YtjlgchdekhmnnaaGreatDoor
open Go.RowKit Go.E
theorem aeqE_iff {a b : Ct.Ent} : aeq (entC a) (entC b) = true ↔ a = b := by
 obtain ⟨t, ⟨k, c, o, n⟩, l, s⟩ := a
 obtain ⟨t', ⟨k', c', o', n'⟩, l', s'⟩ := b
 simp [aeq, entC, veq, and_assoc]
theorem entry_any {B w : World} {L : List As} (xs : List Int) (p : Option Addr) (c n : Nat) (th : Int) (a : Ct.Acc) (hn : xs.length = n) (h : SH B w (osl 40 1 (.slice p n c) n (xs.map (Value.int .i64)) :: L)) :
  Calls Tryz.prog 95 #[.slice p n c, .int .i64 th, .agg (acC a).toArray] w fun e w' => e = .returned (.agg (entC (Ct.entryM xs th a).1).toArray) ∧ SH B w' (osl 40 1 (.slice p n c) n ((Ct.entryM xs th a).2.map (Value.int .i64)) :: L) := by
 subst hn
 cases hx : Ct.existsC xs.length a.cell with
 | false => exact entry_0 xs p c th a h hx
 | true =>
  have hx' : 1 ≤ a.cell ∧ a.cell ≤ xs.length := by simpa [Ct.existsC] using hx
  obtain ⟨b, rfl⟩ := h.fp a0 (by omega)
  by_cases hk : a.kind = 1
  ·exact entry_1 xs b c th a h hx hk
  ·by_cases hq : xs.getD (a.cell.toNat - 1) 0 = a.old
   ·exact entry_2 xs b c th a h hx hk hq
   ·exact entry_3 xs b c th a h hx hk hq
set_option maxRecDepth 100000 in
theorem cloneR_any {B w : World} {L : List As} (l : List Int) (p : Option Addr) (c : Nat) (hl : l.length ≤ 274877906944) (h : SH B w (rsl 1 (.slice p l.length c) l.length (l.map (Value.int .i64)) :: L)) :
  Calls Tryz.prog 65 #[.slice p l.length c] w fun e w' => ∃ v, e = .returned v ∧ SH B w' (osl 40 1 v l.length (l.map (Value.int .i64)) :: rsl 1 (.slice p l.length c) l.length (l.map (Value.int .i64)) :: L) := by
 refine bgn (args := [_]) Tryz.func65 rfl Tryz.ntmps65 rfl ?_
 refine sq <| rg <| st (sg rfl) <| xe <| nx <| sq <| sq <| rg <| st (mv rfl) <| st (bnl sl_56 rfl rfl) <| xe <| nx <| ?_
 rcases Bool.eq_false_or_eq_true ((p).isNone) with hd1 | hd1
 ·refine ct rfl hd1 <| sq <| rg <| st (sg rfl) <| xe <| nx <| rt <| tr <| ?_
  have h0 := h.rz a0 hd1
  obtain rfl : l = [] := List.eq_nil_of_length_eq_zero h0
  refine rr (res1 Tryz.results65 rfl) <| ?_
  exact ⟨_, rfl, SH.nil _ _ h⟩
 ·obtain ⟨b9, o9, rfl⟩ := h.rp a0 hd1
  refine cf rfl hd1 <| sk <| nx <| sq <| rg <| sf (bu [] h sl_56 ss_40 rfl (by kernel_rfl) rfl (by decide) (by decide)) <| ?_
  rintro _ w ⟨b2, rfl, h⟩
  refine st (mv rfl) <| sf (ap h sl_56 rfl ss_40 rfl (by decide) rfl rfl (fun _ => u0) (h.rr a1) (ones_ints _) (Nat.zero_add _) (List.nil_append _) (by unfold maxLen; omega) (by omega)) <| ?_
  rintro _ w ⟨p3, c4, rfl, h⟩
  refine st (sg rfl) <| xe <| nx <| rt <| ?_
  refine rr (res1 Tryz.results65 rfl) <| ⟨_, rfl, h⟩
set_option maxRecDepth 100000 in
theorem execute_any {B w : World} {L : List As} (xs : List Int) (n : Nat) (hn : xs.length = n) (pc : Option Addr) (cc : Nat) (le : List Ct.Ent) (pe : Option Addr) (ce : Nat) (hle : le.length ≤ 1000000) (h : SH B w (osl 40 1 (.slice pc n cc) n (xs.map (Value.int .i64)) :: rsl 7 (.slice pe le.length ce) le.length (le.flatMap entC) :: L)) :
  Calls Tryz.prog 64 #[.slice pc n cc, .slice pe le.length ce] w fun e w' => e = .returned (.tuple [.int .i64 (((Ct.executeF xs le 0).1 : Nat) : Int), .int .i64 (Ct.executeF xs le 0).2.1].toArray) ∧ SH B w' (osl 40 1 (.slice pc n cc) n ((Ct.executeF xs le 0).2.2.map (Value.int .i64)) :: rsl 7 (.slice pe le.length ce) le.length (le.flatMap entC) :: L) := by
 refine bgn (args := [_, _]) Tryz.func64 rfl Tryz.ntmps64 rfl ?_
 refine sq <| rg <| st (sg rfl) <| st (sg rfl) <| xe <| nx <| sq <| sq <| rg <| st (mv rfl) <| st (ln sl_69 rfl rfl) <| st (mv rfl) <| xe <| nx <| bk <| ?_
 refine lp (α := Nat × List Int) (fun x => (.c 0 (.slice pc n cc) (.c 1 (.slice pe le.length ce) (.c 9 (.slice pe le.length ce) (.c 10 (.int .i64 ((le.length : Nat) : Int)) (.c 11 (.int .i64 ((x.1 : Nat) : Int)) .n)))))) (fun x w => SH B w (osl 40 1 (.slice pc n cc) n (x.2.map (Value.int .i64)) :: rsl 7 (.slice pe le.length ce) le.length (le.flatMap entC) :: L) ∧ (x.1 ≤ le.length) ∧ (x.2.length = n) ∧ (Ct.executeF xs le 0 = Ct.executeF x.2 (le.drop x.1) x.1)) (fun x => le.length - x.1) (0, xs) ⟨rfl, rfl, rfl, rfl, rfl, trivial⟩ ⟨h, Nat.zero_le _, hn, rfl⟩ ?_
 rintro ⟨k, ys⟩ w ⟨h, hk, hxl, hE⟩
 dsimp only at *
 refine sq <| rg <| st (bi rfl rfl rfl) <| xe <| nx <| sq <| ?_
 rcases Bool.eq_false_or_eq_true (decide ((((k : Nat) : Int) : Int) < ((le.length : Nat) : Int))) with hd1 | hd1
 ·have hg2 := of_decide_eq_true hd1
  refine ct rfl hd1 <| sk <| nx <| sq <| bk <| sq <| rg <| st (mv rfl) <| ?_
  obtain ⟨b3, o4, rfl⟩ := h.fq a1 (by omega)
  refine st (ix (j := k) sl_69 sz_75 rfl rfl (by omega)) <| st (ldr rfl ((h.rr a1).x entC_len (by decide) (by omega) {}) row_75) <| sf (al h zc_75) <| ?_
  rintro _ w ⟨b5, rfl, h⟩
  refine st (sg rfl) <| sf (so h rfl rfl rfl sz_75 rfl (.r (.r (.r (.r (.r (.r (.r .d))))))) u0) <| ?_
  rintro _ w h
  refine xe <| nx <| sq <| rg <| st (fa fo_75_1 rfl) <| st (fa fo_73_0 rfl) <| st (ld one_3 rfl (h.c a0 rfl)) <| st (sg rfl) <| xe <| nx <| sq <| sq <| rg <| st (mv rfl) <| st (bi rfl rfl rfl) <| st (mv rfl) <| ?_
  rcases Bool.eq_false_or_eq_true (((le.getD k {}).acc.kind : Int) != 1) with hd6 | hd6
  ·have hg7 := bne_iff_ne.1 hd6
   refine gT rfl rfl hd6 <| st (mv rfl) <| gT rfl rfl hd6 <| st (bi rfl rfl rfl) <| st (pT rfl hd6 rfl) <| st (mv rfl) <| ?_
   rcases Bool.eq_false_or_eq_true (((le.getD k {}).acc.kind : Int) != 2) with hd8 | hd8
   ·have hg9 := bne_iff_ne.1 hd8
    refine gF rfl rfl hd8 <| gF rfl rfl hd8 <| gF rfl rfl hd8 <| gF rfl rfl hd8 <| gF rfl rfl hd8 <| gF rfl rfl hd8 <| st (pT rfl hd8 rfl) <| xe <| nx <| cT rfl <| sq <| rg <| st (mv rfl) <| st (sg rfl) <| st (sg rfl) <| xe <| nx <| rt <| tr <| bt <| tr <| tr <| bt <| tr <| ?_
    have hb : Ct.badE ys.length (le.getD k {}) = true := by unfold Ct.badE; rw [hxl, hd6, hd8]; rfl
    have hR := hE.trans (Ct.ex_bad (by omega) hb)
    refine rr (res2 Tryz.results64 rfl rfl) <| ?_
    rw [hR]; exact ⟨rfl, h.drop⟩
   ·have hg10 := eq_of_bneF hd8
    refine gT rfl rfl hd8 <| st (mv rfl) <| gT rfl rfl hd8 <| st (fa fo_75_1 rfl) <| gT rfl rfl hd8 <| st (fa fo_73_1 rfl) <| gT rfl rfl hd8 <| st (ld one_41 rfl (h.c a0 rfl)) <| gT rfl rfl hd8 <| cl (ca en_94 rfl) ((exists_any pc n cc ((le.getD k {}).acc.cell)).mono ?_)
    rintro _ _ ⟨rfl, rfl⟩
    refine ⟨_, rfl, ?_⟩
    refine gT rfl rfl hd8 <| st (nt rfl) <| st (pF rfl hd8 rfl) <| xe <| nx <| ?_
    rcases Bool.eq_false_or_eq_true (!(Ct.existsC n ((le.getD k {}).acc.cell))) with hd11 | hd11
    ·have hd12 : (Ct.existsC n ((le.getD k {}).acc.cell)) = false := by simpa using hd11
     refine ct rfl hd11 <| sq <| rg <| st (mv rfl) <| st (sg rfl) <| st (sg rfl) <| xe <| nx <| rt <| tr <| bt <| tr <| tr <| bt <| tr <| ?_
     have hb : Ct.badE ys.length (le.getD k {}) = true := by unfold Ct.badE; rw [hxl, hd6, hd8, hd12]; rfl
     have hR := hE.trans (Ct.ex_bad (by omega) hb)
     refine rr (res2 Tryz.results64 rfl rfl) <| ?_
     rw [hR]; exact ⟨rfl, h.drop⟩
    ·have hd13 : (Ct.existsC n ((le.getD k {}).acc.cell)) = true := by simpa using hd11
     refine cf rfl hd11 <| sk <| nx <| sq <| drH [1, 3, 5, 7, 9, 13, 10, 15] (by kernel_rfl) h (.c r0 .n) fun w h => tk (fun W H => mv rfl) <| tk (fun W H => fa fo_75_0 rfl) <| tk (fun W H => ld one_3 rfl (H.c a0 rfl)) <| tk (fun W H => fa fo_75_1 rfl) <| tk (fun W H => ldr (cs := [.int .i64 ((le.getD k {}).acc.kind), .int .i64 ((le.getD k {}).acc.cell), .int .i64 ((le.getD k {}).acc.old), .int .i64 ((le.getD k {}).acc.new)]) rfl (rows_of (H.b a0) 1 rfl) row_73) <| tk (fun W H => ldr rfl (rows_all (H.b a0)) row_75) <| cs (ca en_95 rfl) ((entry_any ys pc cc n ((le.getD k {}).thread) (le.getD k {}).acc hxl (h.fr (.c r1 .n))).mono ?_)
     rintro _ w ⟨rfl, h⟩
     refine ⟨_, rfl, h.hs (.c r1 .n), ?_⟩
     refine tk (fun W H => bne_ eq_75 rfl rfl rfl rfl) <| xz <| nx <| ?_
     rcases Bool.eq_false_or_eq_true (!aeq (entC ((Ct.entryM ys (le.getD k {}).thread (le.getD k {}).acc).1)) (entC (le.getD k {}))) with hd14 | hd14
     ·have hd15 : (aeq (entC ((Ct.entryM ys (le.getD k {}).thread (le.getD k {}).acc).1)) (entC (le.getD k {}))) = false := by simpa using hd14
      refine ct rfl hd14 <| sq <| rg <| st (mv rfl) <| st (sg rfl) <| st (sg rfl) <| xe <| nx <| rt <| bt <| tr <| tr <| bt <| tr <| ?_
      have hb : Ct.badE ys.length (le.getD k {}) = false := by unfold Ct.badE; rw [hxl, hd6, hd8, hd13]; rfl
      have hq : (Ct.entryM ys (le.getD k {}).thread (le.getD k {}).acc).1 ≠ le.getD k {} := fun hc => by have h9 := hd15; rw [aeqE_iff.2 hc] at h9; cases h9
      have hR := hE.trans (Ct.ex_neq (by omega) hb hq)
      refine rr (res2 Tryz.results64 rfl rfl) <| ?_
      rw [hR]; exact ⟨rfl, (h.fr (.c r1 .n)).drop⟩
     ·have hd16 : (aeq (entC ((Ct.entryM ys (le.getD k {}).thread (le.getD k {}).acc).1)) (entC (le.getD k {}))) = true := by simpa using hd14
      refine cf rfl hd14 <| sk <| bn <| nx <| rg <| st (bw rfl rfl (wadd (c := ((k + 1 : Nat) : Int)) (by omega) (by omega) (by omega))) <| st (mv rfl) <| xe <| nx <| ?_
      have hb : Ct.badE ys.length (le.getD k {}) = false := by unfold Ct.badE; rw [hxl, hd6, hd8, hd13]; rfl
      have hq : (Ct.entryM ys (le.getD k {}).thread (le.getD k {}).acc).1 = le.getD k {} := aeqE_iff.1 hd16
      exact ⟨(k + 1, (Ct.entryM ys (le.getD k {}).thread (le.getD k {}).acc).2), ⟨rfl, rfl, rfl, rfl, rfl, trivial⟩, ⟨(h.fr (.c r1 .n)).drop, by (try dsimp only); omega, by rw [Ct.entryM_len]; exact hxl, by rw [hE, Ct.ex_step (by omega) hb hq]⟩, by (try dsimp only); omega⟩
  ·have hg17 := eq_of_bneF hd6
   refine gF rfl rfl hd6 <| gF rfl rfl hd6 <| st (pF rfl hd6 rfl) <| st (mv rfl) <| gT rfl rfl rfl <| st (mv rfl) <| gT rfl rfl rfl <| st (fa fo_75_1 rfl) <| gT rfl rfl rfl <| st (fa fo_73_1 rfl) <| gT rfl rfl rfl <| st (ld one_41 rfl (h.c a0 rfl)) <| gT rfl rfl rfl <| cl (ca en_94 rfl) ((exists_any pc n cc ((le.getD k {}).acc.cell)).mono ?_)
   rintro _ _ ⟨rfl, rfl⟩
   refine ⟨_, rfl, ?_⟩
   refine gT rfl rfl rfl <| st (nt rfl) <| st (pF rfl rfl rfl) <| xe <| nx <| ?_
   rcases Bool.eq_false_or_eq_true (!(Ct.existsC n ((le.getD k {}).acc.cell))) with hd18 | hd18
   ·have hd19 : (Ct.existsC n ((le.getD k {}).acc.cell)) = false := by simpa using hd18
    refine ct rfl hd18 <| sq <| rg <| st (mv rfl) <| st (sg rfl) <| st (sg rfl) <| xe <| nx <| rt <| tr <| bt <| tr <| tr <| bt <| tr <| ?_
    have hb : Ct.badE ys.length (le.getD k {}) = true := by unfold Ct.badE; rw [hxl, hd6, hd19]; rfl
    have hR := hE.trans (Ct.ex_bad (by omega) hb)
    refine rr (res2 Tryz.results64 rfl rfl) <| ?_
    rw [hR]; exact ⟨rfl, h.drop⟩
   ·have hd20 : (Ct.existsC n ((le.getD k {}).acc.cell)) = true := by simpa using hd18
    refine cf rfl hd18 <| sk <| nx <| sq <| drH [1, 3, 5, 7, 9, 13, 10, 15] (by kernel_rfl) h (.c r0 .n) fun w h => tk (fun W H => mv rfl) <| tk (fun W H => fa fo_75_0 rfl) <| tk (fun W H => ld one_3 rfl (H.c a0 rfl)) <| tk (fun W H => fa fo_75_1 rfl) <| tk (fun W H => ldr (cs := [.int .i64 ((le.getD k {}).acc.kind), .int .i64 ((le.getD k {}).acc.cell), .int .i64 ((le.getD k {}).acc.old), .int .i64 ((le.getD k {}).acc.new)]) rfl (rows_of (H.b a0) 1 rfl) row_73) <| tk (fun W H => ldr rfl (rows_all (H.b a0)) row_75) <| cs (ca en_95 rfl) ((entry_any ys pc cc n ((le.getD k {}).thread) (le.getD k {}).acc hxl (h.fr (.c r1 .n))).mono ?_)
    rintro _ w ⟨rfl, h⟩
    refine ⟨_, rfl, h.hs (.c r1 .n), ?_⟩
    refine tk (fun W H => bne_ eq_75 rfl rfl rfl rfl) <| xz <| nx <| ?_
    rcases Bool.eq_false_or_eq_true (!aeq (entC ((Ct.entryM ys (le.getD k {}).thread (le.getD k {}).acc).1)) (entC (le.getD k {}))) with hd21 | hd21
    ·have hd22 : (aeq (entC ((Ct.entryM ys (le.getD k {}).thread (le.getD k {}).acc).1)) (entC (le.getD k {}))) = false := by simpa using hd21
     refine ct rfl hd21 <| sq <| rg <| st (mv rfl) <| st (sg rfl) <| st (sg rfl) <| xe <| nx <| rt <| bt <| tr <| tr <| bt <| tr <| ?_
     have hb : Ct.badE ys.length (le.getD k {}) = false := by unfold Ct.badE; rw [hxl, hd6, hd20]; rfl
     have hq : (Ct.entryM ys (le.getD k {}).thread (le.getD k {}).acc).1 ≠ le.getD k {} := fun hc => by have h9 := hd22; rw [aeqE_iff.2 hc] at h9; cases h9
     have hR := hE.trans (Ct.ex_neq (by omega) hb hq)
     refine rr (res2 Tryz.results64 rfl rfl) <| ?_
     rw [hR]; exact ⟨rfl, (h.fr (.c r1 .n)).drop⟩
    ·have hd23 : (aeq (entC ((Ct.entryM ys (le.getD k {}).thread (le.getD k {}).acc).1)) (entC (le.getD k {}))) = true := by simpa using hd21
     refine cf rfl hd21 <| sk <| bn <| nx <| rg <| st (bw rfl rfl (wadd (c := ((k + 1 : Nat) : Int)) (by omega) (by omega) (by omega))) <| st (mv rfl) <| xe <| nx <| ?_
     have hb : Ct.badE ys.length (le.getD k {}) = false := by unfold Ct.badE; rw [hxl, hd6, hd20]; rfl
     have hq : (Ct.entryM ys (le.getD k {}).thread (le.getD k {}).acc).1 = le.getD k {} := aeqE_iff.1 hd23
     exact ⟨(k + 1, (Ct.entryM ys (le.getD k {}).thread (le.getD k {}).acc).2), ⟨rfl, rfl, rfl, rfl, rfl, trivial⟩, ⟨(h.fr (.c r1 .n)).drop, by (try dsimp only); omega, by rw [Ct.entryM_len]; exact hxl, by rw [hE, Ct.ex_step (by omega) hb hq]⟩, by (try dsimp only); omega⟩
 ·have hg24 := of_decide_eq_false hd1
  refine cf rfl hd1 <| xt <| tx <| tx <| be <| nx <| sq <| rg <| st (mv rfl) <| st (ln sl_69 rfl rfl) <| st (sg rfl) <| st (sg rfl) <| xe <| nx <| rt <| ?_
  have hR := hE.trans (Ct.ex_end (by omega))
  obtain rfl : k = le.length := by omega
  refine rr (res2 Tryz.results64 rfl rfl) <| ?_
  rw [hR]; exact ⟨rfl, h⟩
end Go.Proofs.YtjlgchdekhmnnaaGreatDoor
end
section
namespace Go.Proofs.YtjlgchdekhmnnaaGreatDoor
open Go.E
theorem one_4 : oneC Tryz.prog 4 = true := by kernel_rfl
theorem ss_3 : sizes Tryz.prog 3 = some (.int .i64 0, 1, 8) := by kernel_rfl
theorem ss_75 : sizes Tryz.prog 75 = some (.agg [.int .i64 0, .int .i64 0, .int .i64 0, .int .i64 0, .int .i64 0, .int .i64 0, .bool false].toArray, 7, 56) := by kernel_rfl
theorem en_31 : Ents Tryz.prog 31 := enG Tryz.func31 rfl rfl
theorem en_30 : Ents Tryz.prog 30 := enG Tryz.func30 rfl rfl
end Go.Proofs.YtjlgchdekhmnnaaGreatDoor
end
section
namespace Go.E
variable {P : Program} {n : Nat} {K : Post} {e : Tm} {w : World} {ops : Array Oper} {l : List Oper} {S : World → Prop} {ls : List (Oper × Bool)} {B : World} {L L' : List As}
variable {d : Option Tmp} {ty : TypeId} {ps : String} {af : Array Edge} {g : Option (Nat × Bool)}
theorem flat_set {α : Type} {enc : α → List Value} {sz : Nat} (he : ∀ x, (enc x).length = sz) (a : α) : ∀ (xs : List α) (j : Nat), j < xs.length → (xs.set j a).flatMap enc = (xs.flatMap enc).take (j * sz) ++ enc a ++ (xs.flatMap enc).drop (j * sz + sz)
 | [], j, h => by simp at h
 | y :: xs, 0, h => by
  simp only [List.set_cons_zero, List.flatMap_cons, Nat.zero_mul, List.take_zero, List.nil_append, Nat.zero_add]
  rw [List.drop_append, he, List.drop_of_length_le (by rw [he]; omega), Nat.sub_self]; simp
 | y :: xs, j + 1, h => by
  simp only [List.set_cons_succ, List.flatMap_cons]
  rw [flat_set he a xs j (by simpa using h), List.take_append, List.drop_append, he, Nat.succ_mul, List.take_of_length_le (l := enc y) (by rw [he]; omega), List.drop_of_length_le (l := enc y) (by rw [he]; omega), show j * sz + sz - sz = j * sz by omega, show j * sz + sz + sz - sz = j * sz + sz by omega]
  simp
theorem mx {x y : Operand} {ats : Array TypeId} {k k' : IntKind} {a b c : Int} (hx : ev n e x = some (.int k a)) (hy : ev n e y = some (.int k' b)) (hc : (if b > a then b else a) = c) : Y P n e ⟨d, .call ⟨.builtin .max, #[x, y], ats⟩, ty, ps, af, g⟩ w (.int k c) w := fun f hf => by
 have := run_max_int2 (P := P) (w := w) ats ty k k' a b
 rw [hc] at this
 simp [execOp, resolve, invoke, builtin, hf.eval hx, hf.eval hy, this]
theorem SH.rb {b : Nat} {cs : List Value} {t : TypeId} (h : SH B w L) (m : At L (rb b cs t)) : w.heap[b]? = some (.cells cs.toArray t (0, 0)) := by
 obtain ⟨_, _, h1⟩ := h.at_ m; exact h1.1
theorem Hs.rb {F : List As} {b : Nat} {cs : List Value} {t : TypeId} (h : Hs F w) (m : At F (rb b cs t)) : w.heap[b]? = some (.cells cs.toArray t (0, 0)) := by
 obtain ⟨_, _, h1⟩ := h _ m; exact h1.1
theorem SH.rbc {b : Nat} {cs : List Value} {t : TypeId} {j : Nat} {v : Value} (h : SH B w L) (m : At L (Go.E.rb b cs t)) (hj : cs[j]? = some v) : w.cell? ⟨b, j, none⟩ = some v := by
 simp [World.cell?, h.rb m, hj]
theorem Hs.rbc {F : List As} {b : Nat} {cs : List Value} {t : TypeId} {j : Nat} {v : Value} (h : Hs F w) (m : At F (Go.E.rb b cs t)) (hj : cs[j]? = some v) : w.cell? ⟨b, j, none⟩ = some v := by
 simp [World.cell?, h.rb m, hj]
end Go.E
end
section
namespace Go.Proofs.YtjlgchdekhmnnaaGreatDoor
open Go.RowKit Go.E
theorem flat_take {α : Type} {enc : α → List Value} {sz : Nat} (he : ∀ x, (enc x).length = sz) : ∀ (l : List α) (n : Nat), (l.flatMap enc).take (n * sz) = (l.take n).flatMap enc
 | [], n => by simp
 | x :: l, 0 => by simp
 | x :: l, n + 1 => by
  rw [List.flatMap_cons, List.take_succ_cons, List.flatMap_cons, List.take_append, he, Nat.succ_mul, List.take_of_length_le (by rw [he]; omega), show n * sz + sz - sz = n * sz by omega, flat_take he l n]
theorem shrc {B w : World} {L : List As} {sz m c : Nat} {p : Option Addr} {xs : List Value} (h : SH B w L) (m' : At L (rsl sz (.slice p m c) m xs)) : m ≤ c := by
 obtain ⟨_, _, h1⟩ := h.at_ m'
 rcases h1.1.2 with ⟨h2, h3⟩ | ⟨g, o, cap, h2, _, h3, h4, _⟩
 ·rw [h3]; exact Nat.zero_le _
 ·injection h2 with _ _ h2; rw [h2]; exact h3
set_option maxRecDepth 100000 in
theorem firstR_any {B w : World} {L : List As} (l : List Int) (p : Option Addr) (c : Nat) (n : Nat) (hn : n ≤ 1000000) (h : SH B w (rsl 1 (.slice p l.length c) l.length (l.map (Value.int .i64)) :: L)) :
  Calls Tryz.prog 30 #[.slice p l.length c, .int .i64 ((n : Nat) : Int)] w fun e w' => ∃ p9 c9, e = .returned (.slice p9 (l.take n).length c9) ∧ SH B w' (rsl 1 (.slice p9 (l.take n).length c9) (l.take n).length ((l.take n).map (Value.int .i64)) :: rsl 1 (.slice p l.length c) l.length (l.map (Value.int .i64)) :: L) := by
 have hc9 := shrc h a0
 refine bgn (args := [_, _]) Tryz.func30 rfl Tryz.ntmps30 rfl ?_
 refine sq <| rg <| st (sg rfl) <| xe <| nx <| sq <| sq <| rg <| st (mv rfl) <| st (ln sl_56 rfl rfl) <| st (mv rfl) <| st (bi rfl rfl rfl) <| xe <| nx <| ?_
 rcases Bool.eq_false_or_eq_true (decide ((((l.length : Nat) : Int) : Int) > ((n : Nat) : Int))) with hd1 | hd1
 ·have hg2 := of_decide_eq_true hd1
  refine ct rfl hd1 <| sq <| rg <| st (mv rfl) <| st (mv rfl) <| st (slh (k := n) sl_56 sz_40 rfl rfl (by omega)) <| ?_
  have h := h.cut (k := n) a0 (by omega)
  refine st (sg rfl) <| xe <| nx <| rt <| tr <| ?_
  have e9 : (l.take n).length = n := by rw [List.length_take]; omega
  rw [Nat.mul_one, ← List.map_take] at h
  refine rr (res1 Tryz.results30 rfl) <| ?_
  rw [e9]; exact ⟨p, c, rfl, h⟩
 ·have hg3 := of_decide_eq_false hd1
  refine cf rfl hd1 <| sk <| nx <| sq <| rg <| st (mv rfl) <| st (sg rfl) <| xe <| nx <| rt <| ?_
  have e9 : l.take n = l := List.take_of_length_le (by omega)
  refine rr (res1 Tryz.results30 rfl) <| ?_
  rw [e9]; exact ⟨p, c, rfl, h.du a0⟩
set_option maxRecDepth 100000 in
theorem firstE_any {B w : World} {L : List As} (l : List Ct.Ent) (p : Option Addr) (c : Nat) (n : Nat) (hn : n ≤ 1000000) (h : SH B w (rsl 7 (.slice p l.length c) l.length (l.flatMap entC) :: L)) :
  Calls Tryz.prog 31 #[.slice p l.length c, .int .i64 ((n : Nat) : Int)] w fun e w' => ∃ p9 c9, e = .returned (.slice p9 (l.take n).length c9) ∧ SH B w' (rsl 7 (.slice p9 (l.take n).length c9) (l.take n).length ((l.take n).flatMap entC) :: rsl 7 (.slice p l.length c) l.length (l.flatMap entC) :: L) := by
 have hc9 := shrc h a0
 refine bgn (args := [_, _]) Tryz.func31 rfl Tryz.ntmps31 rfl ?_
 refine sq <| rg <| st (sg rfl) <| xe <| nx <| sq <| sq <| rg <| st (mv rfl) <| st (ln sl_69 rfl rfl) <| st (mv rfl) <| st (bi rfl rfl rfl) <| xe <| nx <| ?_
 rcases Bool.eq_false_or_eq_true (decide ((((l.length : Nat) : Int) : Int) > ((n : Nat) : Int))) with hd1 | hd1
 ·have hg2 := of_decide_eq_true hd1
  refine ct rfl hd1 <| sq <| rg <| st (mv rfl) <| st (mv rfl) <| st (slh (k := n) sl_69 sz_75 rfl rfl (by omega)) <| ?_
  have h := h.cut (k := n) a0 (by omega)
  refine st (sg rfl) <| xe <| nx <| rt <| tr <| ?_
  have e9 : (l.take n).length = n := by rw [List.length_take]; omega
  rw [flat_take entC_len] at h
  refine rr (res1 Tryz.results31 rfl) <| ?_
  rw [e9]; exact ⟨p, c, rfl, h⟩
 ·have hg3 := of_decide_eq_false hd1
  refine cf rfl hd1 <| sk <| nx <| sq <| rg <| st (mv rfl) <| st (sg rfl) <| xe <| nx <| rt <| ?_
  have e9 : l.take n = l := List.take_of_length_le (by omega)
  refine rr (res1 Tryz.results31 rfl) <| ?_
  rw [e9]; exact ⟨p, c, rfl, h.du a0⟩
end Go.Proofs.YtjlgchdekhmnnaaGreatDoor
end
section
namespace Go.Proofs.YtjlgchdekhmnnaaGreatDoor
open Go.E
theorem en_36 : Ents Tryz.prog 36 := enG Tryz.func36 rfl rfl
theorem en_33 : Ents Tryz.prog 33 := enG Tryz.func33 rfl rfl
theorem en_35 : Ents Tryz.prog 35 := enG Tryz.func35 rfl rfl
end Go.Proofs.YtjlgchdekhmnnaaGreatDoor
end
section
namespace Go.Proofs.YtjlgchdekhmnnaaGreatDoor
open Go.RowKit Go.E
theorem ext_getD {α : Type} {a b : List α} (d : α) (hl : a.length = b.length) (hx : ∀ i, i < a.length → a.getD i d = b.getD i d) : a = b := by
 apply List.ext_getElem hl
 intro i h1 h2
 have := hx i h1
 rwa [List.getD_eq_getElem?_getD, List.getD_eq_getElem?_getD, List.getElem?_eq_getElem h1, List.getElem?_eq_getElem h2] at this
set_option maxRecDepth 100000 in
theorem Check_any {B w : World} {L : List As} (xs : List Int) (p : Option Addr) (c : Nat) (hl : xs.length ≤ 1000000) (le : List Ct.Ent) (pe : Option Addr) (ce : Nat) (hle : le.length ≤ 1000000) (h : SH B w (rsl 1 (.slice p xs.length c) xs.length (xs.map (Value.int .i64)) :: rsl 7 (.slice pe le.length ce) le.length (le.flatMap entC) :: L)) :
  Calls Tryz.prog 33 #[.slice p xs.length c, .slice pe le.length ce] w fun e w' => e = .returned (.tuple [.int .i64 (((Ct.executeF xs le 0).1 : Nat) : Int), .int .i64 (Ct.executeF xs le 0).2.1].toArray) ∧ SH B w' (rsl 1 (.slice p xs.length c) xs.length (xs.map (Value.int .i64)) :: rsl 7 (.slice pe le.length ce) le.length (le.flatMap entC) :: L) := by
 refine bgn (args := [_, _]) Tryz.func33 rfl Tryz.ntmps33 rfl ?_
 refine sq <| rg <| st (sg rfl) <| st (sg rfl) <| xe <| nx <| sq <| rg <| st (mv rfl) <| cl (ca en_65 rfl) ((cloneR_any xs p c (by omega) (h.fr (.c r0 .n))).mono ?_)
 rintro _ w ⟨_, rfl, h⟩
 obtain ⟨p9, c9, rfl⟩ := h.fo a0
 refine ⟨_, rfl, ?_⟩
 refine st (mv rfl) <| cl (ca en_64 rfl) ((execute_any xs xs.length rfl p9 c9 le pe ce hle (h.fr (.c r0 (.c r1 .n)))).mono ?_)
 rintro _ w ⟨rfl, h⟩
 refine ⟨_, rfl, ?_⟩
 refine st (xr rfl rfl) <| st (xr rfl rfl) <| st (sg rfl) <| st (sg rfl) <| xe <| nx <| rt <| ?_
 refine rr (res2 Tryz.results33 rfl rfl) <| ⟨rfl, (h.drop.fr (.c r1 (.c r0 .n)))⟩
set_option maxRecDepth 100000 in
theorem Replay_any {B w : World} {L : List As} (xs : List Int) (p : Option Addr) (c : Nat) (hl : xs.length ≤ 1000000) (le : List Ct.Ent) (pe : Option Addr) (ce : Nat) (hle : le.length ≤ 1000000) (h : SH B w (rsl 1 (.slice p xs.length c) xs.length (xs.map (Value.int .i64)) :: rsl 7 (.slice pe le.length ce) le.length (le.flatMap entC) :: L)) :
  Calls Tryz.prog 35 #[.slice p xs.length c, .slice pe le.length ce] w fun e w' => ∃ p9 c9 n, (Ct.replayM xs le).1.length = n ∧ e = .returned (.tuple [.slice p9 n c9, .int .i64 (Ct.replayM xs le).2].toArray) ∧ SH B w' (rsl 1 (.slice p9 n c9) n ((Ct.replayM xs le).1.map (Value.int .i64)) :: rsl 1 (.slice p xs.length c) xs.length (xs.map (Value.int .i64)) :: rsl 7 (.slice pe le.length ce) le.length (le.flatMap entC) :: L) := by
 refine bgn (args := [_, _]) Tryz.func35 rfl Tryz.ntmps35 rfl ?_
 refine sq <| rg <| st (sg rfl) <| st (sg rfl) <| xe <| nx <| sq <| rg <| st (mv rfl) <| cl (ca en_65 rfl) ((cloneR_any xs p c (by omega) (h.fr (.c r0 .n))).mono ?_)
 rintro _ w ⟨_, rfl, h⟩
 obtain ⟨p9, c9, rfl⟩ := h.fo a0
 refine ⟨_, rfl, ?_⟩
 refine st (sg rfl) <| xe <| nx <| sq <| sq <| rg <| st (mv rfl) <| st (mv rfl) <| cl (ca en_64 rfl) ((execute_any xs xs.length rfl p9 c9 le pe ce hle (h.fr (.c r0 (.c r1 .n)))).mono ?_)
 rintro _ w ⟨rfl, h⟩
 refine ⟨_, rfl, ?_⟩
 refine st (mv rfl) <| st (xr rfl rfl) <| st (xr rfl rfl) <| st (sg rfl) <| st (sg rfl) <| xe <| nx <| sq <| rg <| st (mv rfl) <| st (bi rfl rfl rfl) <| xe <| nx <| ?_
 rcases Bool.eq_false_or_eq_true (((Ct.executeF xs le 0).2.1 : Int) != 0) with hd1 | hd1
 ·have hg2 := bne_iff_ne.1 hd1
  refine ct rfl hd1 <| sq <| rg <| st (mv rfl) <| st (sg rfl) <| st (sg rfl) <| xe <| nx <| rt <| tr <| ?_
  have hR : Ct.replayM xs le = ([], (Ct.executeF xs le 0).2.1) := by unfold Ct.replayM; rw [if_neg (bne_iff_ne.1 hd1)]
  refine rr (res2 Tryz.results35 rfl rfl) <| ?_
  rw [hR]; exact ⟨none, 0, 0, rfl, rfl, SH.nilr 1 (h.drop.fr (.c r1 (.c r0 .n)))⟩
 ·have hg3 := eq_of_bneF hd1
  refine cf rfl hd1 <| sk <| nx <| sq <| rg <| st (mv rfl) <| st (sg rfl) <| st (sg rfl) <| xe <| nx <| rt <| ?_
  have hR : Ct.replayM xs le = ((Ct.executeF xs le 0).2.2, 0) := by unfold Ct.replayM; rw [if_pos (eq_of_bneF hd1)]
  refine rr (res2 Tryz.results35 rfl rfl) <| ?_
  have h9 := Ct.executeF_len le xs 0; rw [hR]; exact ⟨p9, c9, xs.length, h9, rfl, ((h.fr (.c r0 (.c r1 (.c r0 .n))))).fz⟩
set_option maxRecDepth 100000 in
theorem Refs_any {B w : World} {L : List As} (la lb : List Int) (pa pb : Option Addr) (ca cb : Nat) (hl : la.length ≤ 1000000) (h : SH B w (rsl 1 (.slice pa la.length ca) la.length (la.map (Value.int .i64)) :: rsl 1 (.slice pb lb.length cb) lb.length (lb.map (Value.int .i64)) :: L)) :
  Calls Tryz.prog 36 #[.slice pa la.length ca, .slice pb lb.length cb] w fun e w' => e = .returned (.bool (decide (la = lb))) ∧ SH B w' (rsl 1 (.slice pa la.length ca) la.length (la.map (Value.int .i64)) :: rsl 1 (.slice pb lb.length cb) lb.length (lb.map (Value.int .i64)) :: L) := by
 refine bgn (args := [_, _]) Tryz.func36 rfl Tryz.ntmps36 rfl ?_
 refine sq <| rg <| st (sg rfl) <| xe <| nx <| sq <| sq <| rg <| st (mv rfl) <| st (ln sl_56 rfl rfl) <| st (mv rfl) <| st (ln sl_56 rfl rfl) <| st (bi rfl rfl rfl) <| xe <| nx <| ?_
 rcases Bool.eq_false_or_eq_true ((((la.length : Nat) : Int) : Int) != ((lb.length : Nat) : Int)) with hd1 | hd1
 ·have hg2 := bne_iff_ne.1 hd1
  refine ct rfl hd1 <| sq <| rg <| st (sg rfl) <| xe <| nx <| rt <| tr <| ?_
  have hE : la ≠ lb := fun hc => by rw [hc] at hd1; simp at hd1
  refine rr (res1 Tryz.results36 rfl) <| ?_
  rw [decide_eq_false hE]; exact ⟨rfl, h⟩
 ·have hlen : la.length = lb.length := by have h9 := eq_of_bneF hd1; omega
  have hg3 := eq_of_bneF hd1
  refine cf rfl hd1 <| sk <| nx <| sq <| sq <| rg <| st (sg rfl) <| xe <| nx <| bk <| ?_
  refine lp (α := Nat) (fun x => (.c 0 (.slice pa la.length ca) (.c 1 (.slice pb lb.length cb) (.c 5 (.int .i64 ((x : Nat) : Int)) .n)))) (fun x w => SH B w (rsl 1 (.slice pa la.length ca) la.length (la.map (Value.int .i64)) :: rsl 1 (.slice pb lb.length cb) lb.length (lb.map (Value.int .i64)) :: L) ∧ (x ≤ la.length) ∧ (∀ i, i < x → la.getD i 0 = lb.getD i 0)) (fun x => la.length - x) 0 ⟨rfl, rfl, rfl, trivial⟩ ⟨h, Nat.zero_le _, fun i hi => by omega⟩ ?_
  rintro k w ⟨h, hk, hx⟩
  refine sq <| sq <| rg <| st (mv rfl) <| st (mv rfl) <| st (ln sl_56 rfl rfl) <| st (bi rfl rfl rfl) <| xe <| nx <| ?_
  rcases Bool.eq_false_or_eq_true (decide ((((k : Nat) : Int) : Int) < ((la.length : Nat) : Int))) with hd4 | hd4
  ·have hg5 := of_decide_eq_true hd4
   refine ct rfl hd4 <| sk <| nx <| sq <| bk <| sq <| ?_
   obtain ⟨b6, o7, rfl⟩ := h.fq a0 (by omega)
   obtain ⟨b8, o9, rfl⟩ := h.fq a1 (by omega)
   refine drH [1, 3, 5, 7, 9, 11, 13, 15, 17] (by kernel_rfl) h (.c r0 (.c r0 .n)) fun w h => tk (fun W H => mv rfl) <| tk (fun W H => mv rfl) <| tk (fun W H => ix (j := k) sl_56 sz_40 rfl rfl (by omega)) <| tk (fun W H => ld one_40 rfl ((H.rr a0).i (by omega))) <| tk (fun W H => mv rfl) <| tk (fun W H => mv rfl) <| tk (fun W H => ix (j := k) sl_56 sz_40 rfl rfl (by omega)) <| tk (fun W H => ld one_40 rfl ((H.rr a1).i (by omega))) <| tk (fun W H => bi rfl rfl rfl) <| xz <| nx <| ?_
   rcases Bool.eq_false_or_eq_true ((la.getD k 0 : Int) != lb.getD k 0) with hd10 | hd10
   ·have hg11 := bne_iff_ne.1 hd10
    refine ct rfl hd10 <| sq <| rg <| st (sg rfl) <| xe <| nx <| rt <| bt <| tr <| tr <| bt <| tr <| ?_
    have hE : la ≠ lb := fun hc => by have h9 := hd10; rw [hc] at h9; simp at h9
    refine rr (res1 Tryz.results36 rfl) <| ?_
    rw [decide_eq_false hE]; exact ⟨rfl, h⟩
   ·have hg12 := eq_of_bneF hd10
    refine cf rfl hd10 <| sk <| bn <| nx <| rg <| st (mv rfl) <| st (bw rfl rfl (wadd (c := ((k + 1 : Nat) : Int)) (by omega) (by omega) (by omega))) <| st (sg rfl) <| xe <| nx <| ?_
    exact ⟨(k + 1), ⟨rfl, rfl, rfl, trivial⟩, ⟨h, by (try dsimp only); omega, fun i (hi : i < k + 1) => if e : i = k then (by rw [e]; exact eq_of_bneF hd10) else hx i (by omega)⟩, by (try dsimp only); omega⟩
  ·have hg13 := of_decide_eq_false hd4
   refine cf rfl hd4 <| xt <| tx <| tx <| be <| nx <| sq <| rg <| st (sg rfl) <| xe <| nx <| rt <| ?_
   have hE : la = lb := ext_getD 0 hlen (fun i hi => hx i (by omega))
   refine rr (res1 Tryz.results36 rfl) <| ?_
   rw [decide_eq_true hE]; exact ⟨rfl, h⟩
end Go.Proofs.YtjlgchdekhmnnaaGreatDoor
end
