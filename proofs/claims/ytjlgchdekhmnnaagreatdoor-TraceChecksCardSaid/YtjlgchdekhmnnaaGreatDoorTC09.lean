/- Parts of a proof: Tx, E8, E9, Tys. -/
import Derived.Test.YtjlgchdekhmnnaaGreatDoorTC08
import Derived.Test.YtjlgchdekhmnnaaGreatDoorTC07
import Derived.Laws.MakeOwn
import Derived.Test.YtjlgchdekhmnnaaGreatDoorTC04
import Derived.Test.YtjlgchdekhmnnaaGreatDoorTC06
set_option linter.unusedVariables false
set_option linter.unusedSimpArgs false
section
namespace Go.Proofs.YtjlgchdekhmnnaaGreatDoor
open Go.RowKit Go.E
theorem Next_x {B w : World} {L : List As} (b : Nat) (l : List Int) (i : Nat) (n : Int) (h0 : 0 < n) (h1 : n ≤ 9223372036854775807) (h : SH B w (tapeA b l i :: L)) :
  Calls Tryz.prog 25 #[.pointer (some ⟨b, 0, none⟩), .int .i64 n] w fun e w' => ∃ v j, e = .returned (.int .i64 v) ∧ (0 ≤ v ∧ v < n) ∧ SH B w' (tapeA b l j :: L) := by
 refine (Next_any b l i n h0 h1 h).mono ?_
 rintro e w' ⟨rfl, h⟩
 refine ⟨_, _, rfl, ?_, h⟩
 unfold nextV
 split
 ·exact Mod_lt _ _ h0
 ·omega
set_option maxRecDepth 100000 in
theorem entries_any {B w : World} {L : List As} (l : List Int) (p : Option Addr) (c : Nat) (xs : List Int) (q : Option Addr) (d : Nat) (hx : xs.length ≤ 1000000) (h : SH B w (rsl 1 (.slice p l.length c) l.length (l.map (Value.int .i64)) :: rsl 1 (.slice q xs.length d) xs.length (xs.map (Value.int .i64)) :: L)) :
  Calls Tryz.prog 32 #[.slice p l.length c, .slice q xs.length d] w fun e w' => ∃ (es : List Ct.Ent) (p9 : Option Addr) (c9 n : Nat), es.length = n ∧ n ≤ 20 ∧ e = .returned (.slice p9 n c9) ∧ SH B w' (rsl 7 (.slice p9 n c9) n (es.flatMap entC) :: rsl 1 (.slice p l.length c) l.length (l.map (Value.int .i64)) :: rsl 1 (.slice q xs.length d) xs.length (xs.map (Value.int .i64)) :: L) := by
 have h := h.du a0
 refine bgn (args := [_, _]) Tryz.func32 rfl Tryz.ntmps32 rfl ?_
 refine sq <| rg <| st (sg rfl) <| xe <| nx <| sq <| rg <| st (mv rfl) <| cl (ca en_13 rfl) ((New_any l p c (h.fr (.c r0 .n))).mono ?_)
 rintro _ w ⟨bt, rfl, h⟩
 refine ⟨_, rfl, ?_⟩
 refine st (sg rfl) <| xe <| nx <| sq <| rg <| sf (bu [] h sl_56 ss_40 rfl (by kernel_rfl) rfl (by decide) (by decide)) <| ?_
 rintro _ w ⟨b1, rfl, h⟩
 refine st (mv rfl) <| sf (apr h a3 a0 sl_56 rfl ss_40 rfl (by decide) rfl rfl (fun _ => u0) (ones_ints _) (Nat.zero_add _) (List.nil_append _) (by unfold maxLen; omega) (by omega)) <| ?_
 rintro _ w ⟨p2, c3, rfl, h⟩
 refine st (sg rfl) <| xe <| nx <| sq <| rg <| st (sg rfl) <| xe <| nx <| sq <| sq <| rg <| st (sg rfl) <| xe <| nx <| bk <| ?_
 have h := SH.nil 75 7 h
 have hlm := h.lm a1
 unfold maxLen at hlm
 refine lp (α := Nat × Nat × List Int × List Ct.Ent × Option Addr × Nat) (fun x => (.c 5 (.pointer (some ⟨bt, 0, none⟩)) (.c 6 (.slice p2 xs.length c3) (.c 7 (.slice x.2.2.2.2.1 x.1 x.2.2.2.2.2) (.c 8 (.int .i64 ((x.1 : Nat) : Int)) .n))))) (fun x w => SH B w (osl 75 7 (.slice x.2.2.2.2.1 x.1 x.2.2.2.2.2) x.1 (x.2.2.2.1.flatMap entC) :: tapeA bt l x.2.1 :: osl 40 1 (.slice p2 xs.length c3) xs.length (x.2.2.1.map (Value.int .i64)) :: rsl 1 (.slice p l.length c) l.length (l.map (Value.int .i64)) :: rsl 1 (.slice q xs.length d) xs.length (xs.map (Value.int .i64)) :: L) ∧ (x.1 ≤ 20) ∧ (x.2.2.1.length = xs.length) ∧ (x.2.2.2.1.length = x.1)) (fun x => 20 - x.1) (0, 0, xs, [], none, 0) ⟨rfl, rfl, rfl, rfl, trivial⟩ ⟨(h.fr (.c r0 (.c r1 (.c r0 (.c r0 (.c r0 .n)))))), Nat.zero_le _, rfl, rfl⟩ ?_
 rintro ⟨k, i, ys, es, p9, c9⟩ w ⟨h, hk, hn, he⟩
 dsimp only at *
 refine sq <| sq <| rg <| st (mv rfl) <| st (bi rfl rfl rfl) <| st (mv rfl) <| ?_
 rcases Bool.eq_false_or_eq_true (decide ((((k : Nat) : Int) : Int) < 20)) with hd4 | hd4
 ·have hg5 := of_decide_eq_true hd4
  refine gT rfl rfl hd4 <| st (mv rfl) <| gT rfl rfl hd4 <| cl (ca en_55 rfl) ((Left_any bt l i (h.fr (.c r1 .n))).mono ?_)
  rintro _ w ⟨rfl, h⟩
  refine ⟨_, rfl, ?_⟩
  refine st (pT rfl hd4 rfl) <| xe <| nx <| ?_
  rcases Bool.eq_false_or_eq_true (decide ((i : Int) < l.length)) with hd6 | hd6
  ·refine ct rfl hd6 <| sk <| nx <| sq <| bk <| sq <| rg <| st (mv rfl) <| cl (ca en_25 rfl) ((Next_x bt l i 3 (by omega) (by omega) (h.fr (.c r0 .n))).mono ?_)
   rintro _ w ⟨v7, i8, rfl, ⟨hv7, gv7⟩, h⟩
   refine ⟨_, rfl, ?_⟩
   refine st (mv rfl) <| cl (ca en_25 rfl) ((Next_x bt l i8 2 (by omega) (by omega) (h.fr (.c r0 .n))).mono ?_)
   rintro _ w ⟨v9, i10, rfl, ⟨hv9, gv9⟩, h⟩
   refine ⟨_, rfl, ?_⟩
   refine st (bw rfl rfl (wadd (c := 1 + v9) (by omega) (by omega) (by omega))) <| st (mv rfl) <| st (mv rfl) <| st (ln sl_56 rfl rfl) <| ?_
   obtain ⟨mm, hmx, hm1, hm2⟩ : ∃ mm : Int, (if (1 : Int) > ((xs.length : Nat) : Int) then (1 : Int) else ((xs.length : Nat) : Int)) = mm ∧ 0 < mm ∧ mm ≤ 1000001 := ⟨_, rfl, by split <;> omega, by split <;> omega⟩
   refine st (mx rfl rfl hmx) <| cl (ca en_25 rfl) ((Next_x bt l i10 mm (by omega) (by omega) (h.fr (.c r0 .n))).mono ?_)
   rintro _ w ⟨v11, i12, rfl, ⟨hv11, gv11⟩, h⟩
   refine ⟨_, rfl, ?_⟩
   refine st (bw rfl rfl (wadd (c := 1 + v11) (by omega) (by omega) (by omega))) <| st (mv rfl) <| cl (ca en_25 rfl) ((Next_x bt l i12 3 (by omega) (by omega) (h.fr (.c r0 .n))).mono ?_)
   rintro _ w ⟨v13, i14, rfl, ⟨hv13, gv13⟩, h⟩
   refine ⟨_, rfl, ?_⟩
   refine st (mv rfl) <| cl (ca en_25 rfl) ((Next_x bt l i14 3 (by omega) (by omega) (h.fr (.c r0 .n))).mono ?_)
   rintro _ w ⟨v15, i16, rfl, ⟨hv15, gv15⟩, h⟩
   refine ⟨_, rfl, ?_⟩
   refine st (bd [.int .i64 (1 + v9), .int .i64 (1 + v11), .int .i64 v13, .int .i64 v15] bd_73 rfl (by kernel_rfl)) <| st (bd [.int .i64 v7, .int .i64 (1 + v9), .int .i64 (1 + v11), .int .i64 v13, .int .i64 v15, .int .i64 0, .bool false] bd_75 rfl (by kernel_rfl)) <| sf (al h zc_75) <| ?_
   rintro _ w ⟨b17, rfl, h⟩
   refine sf (so h rfl rfl rfl sz_75 rfl (.r (.r (.r (.r (.r (.r (.r .d))))))) u0) <| ?_
   rintro _ w h
   refine xe <| nx <| ?_
   refine sm (fun e w => ∃ l1 : Int, ∃ sw : Bool, ∃ zs : List Int, Sub 87 e (.c 5 (.pointer (some ⟨bt, 0, none⟩)) (.c 6 (.slice p2 xs.length c3) (.c 7 (.slice p9 k c9) (.c 8 (.int .i64 ((k : Nat) : Int)) (.c 9 (.pointer (some ⟨b17, 0, none⟩)) (.c 19 (.pointer (some ⟨bt, 0, none⟩)) (.c 20 (.bool (decide ((i : Int) < l.length))) .n))))))) ∧ SH B w (bl b17 ([.int .i64 v7, .int .i64 (1 + v9), .int .i64 (1 + v11), .int .i64 v13, .int .i64 v15, .int .i64 l1, .bool sw]) 75 :: tapeA bt l i16 :: osl 75 7 (.slice p9 k c9) k (es.flatMap entC) :: osl 40 1 (.slice p2 xs.length c3) xs.length (zs.map (Value.int .i64)) :: rsl 1 (.slice p l.length c) l.length (l.map (Value.int .i64)) :: rsl 1 (.slice q xs.length d) xs.length (xs.map (Value.int .i64)) :: L) ∧ (zs.length = xs.length)) ?_ ?_
   ·refine sq <| rg <| st (fa fo_75_1 rfl) <| st (fa fo_73_1 rfl) <| st (ld one_41 rfl (h.c a0 rfl)) <| ?_
    obtain ⟨j, hjj⟩ : ∃ j : Nat, 1 + v11 - 1 = ((j : Nat) : Int) := ⟨(1 + v11 - 1).toNat, by omega⟩
    refine st (bw rfl rfl (wsub (c := ((j : Nat) : Int)) (by omega) (by omega) (by omega))) <| st (sg rfl) <| xe <| nx <| sq <| rg <| st (mv rfl) <| st (mv rfl) <| st (ln sl_56 rfl rfl) <| st (bi rfl rfl rfl) <| xe <| nx <| ?_
    rcases Bool.eq_false_or_eq_true (decide ((((j : Nat) : Int) : Int) < ((xs.length : Nat) : Int))) with hd18 | hd18
    ·have hg19 := of_decide_eq_true hd18
     refine ct rfl hd18 <| sq <| rg <| st (fa fo_75_1 rfl) <| st (fa fo_73_0 rfl) <| st (ld one_3 rfl (h.c a0 rfl)) <| st (bi rfl rfl rfl) <| xe <| nx <| ?_
     rcases Bool.eq_false_or_eq_true ((1 + v9 : Int) == 1) with hd20 | hd20
     ·have hg21 := eq_of_beq hd20
      refine ct rfl hd20 <| rg <| st (mv rfl) <| st (mv rfl) <| ?_
      obtain ⟨b22, rfl⟩ := h.fp a3 (by omega)
      refine st (ix (j := j) sl_56 sz_40 rfl rfl (by omega)) <| st (ld one_40 rfl ((h.ro a3).i (by omega))) <| st (fa fo_75_2 rfl) <| sf (so h rfl rfl rfl sz_40 rfl (.s (.s (.s (.s (.s (.r .d)))))) u0) <| ?_
      rintro _ w h
      refine xe <| nx <| ?_
      exact ⟨ys.getD j 0, false, ys, ⟨rfl, rfl, rfl, rfl, rfl, rfl, rfl, trivial⟩, h, hn⟩
     ·have hg23 := ne_of_beq_false hd20
      refine cf rfl hd20 <| sq <| ?_
      obtain ⟨b24, rfl⟩ := h.fp a3 (by omega)
      refine drC (F := [osl 40 1 (.slice (some ⟨b24, 0, none⟩) xs.length c3) xs.length (ys.map (Value.int .i64)), ce b17 3 (.int .i64 v13)]) [1, 3, 5, 7, 9, 11, 13, 15, 17, 18] (by kernel_rfl) h (fun w h => (hC (h.at_ a3) (hC (h.ceI a0 rfl) hN))) fun w h => tk (fun W H => mv rfl) <| tk (fun W H => mv rfl) <| tk (fun W H => ix (j := j) sl_56 sz_40 rfl rfl (by omega)) <| tk (fun W H => ld one_40 rfl ((H.ro a0).i (by omega))) <| tk (fun W H => fa fo_75_1 rfl) <| tk (fun W H => fa fo_73_2 rfl) <| tk (fun W H => ld one_40 rfl (H.ce a1)) <| tk (fun W H => bi rfl rfl rfl) <| tk (fun W H => fa fo_75_3 rfl) <| ff (so h rfl rfl rfl sz_4 rfl (.s (.s (.s (.s (.s (.s (.r .d))))))) u0) <| ?_
      rintro _ w h
      refine ⟨(hC (h.at_ a3) (hC (h.ceI a0 rfl) hN)), ?_⟩
      refine xz <| nx <| sq <| rg <| st (fa fo_75_3 rfl) <| st (ld one_4 rfl (h.c a0 rfl)) <| xe <| nx <| ?_
      rcases Bool.eq_false_or_eq_true ((ys.getD j 0 : Int) == v13) with hd25 | hd25
      ·have hg26 := eq_of_beq hd25
       refine ct rfl hd25 <| rg <| st (mv rfl) <| st (mv rfl) <| st (fa fo_75_1 rfl) <| st (fa fo_73_3 rfl) <| st (ld one_40 rfl (h.c a0 rfl)) <| st (ix (j := j) sl_56 sz_40 rfl rfl (by omega)) <| sf (soi h sz_40 rfl rfl (by omega) u3) <| ?_
       rintro _ w h
       refine xe <| nx <| ?_
       exact ⟨0, ((ys.getD j 0 : Int) == v13), ys.set j v15, ⟨rfl, rfl, rfl, rfl, rfl, rfl, rfl, trivial⟩, h, by simpa using hn⟩
      ·have hg27 := ne_of_beq_false hd25
       refine cf rfl hd25 <| sk <| nx <| ?_
       exact ⟨0, ((ys.getD j 0 : Int) == v13), ys, ⟨rfl, rfl, rfl, rfl, rfl, rfl, rfl, trivial⟩, h, hn⟩
    ·have hg28 := of_decide_eq_false hd18
     refine cf rfl hd18 <| sk <| nx <| ?_
     exact ⟨0, false, ys, ⟨rfl, rfl, rfl, rfl, rfl, rfl, rfl, trivial⟩, h, hn⟩
   rintro e w ⟨l1, sw, zs, hE, h, hz⟩
   refine C.sub hE ?_
   clear hE e
   refine sm (fun e w => ∃ l2 : Int, ∃ i9 : Nat, Sub 87 e (.c 5 (.pointer (some ⟨bt, 0, none⟩)) (.c 6 (.slice p2 xs.length c3) (.c 7 (.slice p9 k c9) (.c 8 (.int .i64 ((k : Nat) : Int)) (.c 9 (.pointer (some ⟨b17, 0, none⟩)) (.c 19 (.pointer (some ⟨bt, 0, none⟩)) (.c 20 (.bool (decide ((i : Int) < l.length))) .n))))))) ∧ SH B w (bl b17 ([.int .i64 v7, .int .i64 (1 + v9), .int .i64 (1 + v11), .int .i64 v13, .int .i64 v15, .int .i64 l2, .bool sw]) 75 :: tapeA bt l i9 :: osl 75 7 (.slice p9 k c9) k (es.flatMap entC) :: osl 40 1 (.slice p2 xs.length c3) xs.length (zs.map (Value.int .i64)) :: rsl 1 (.slice p l.length c) l.length (l.map (Value.int .i64)) :: rsl 1 (.slice q xs.length d) xs.length (xs.map (Value.int .i64)) :: L)) ?_ ?_
   ·refine sq <| rg <| st (mv rfl) <| cl (ca en_25 rfl) ((Next_x bt l i16 20 (by omega) (by omega) (h.fr (.c r1 .n))).mono ?_)
    rintro _ w ⟨v29, i30, rfl, ⟨hv29, gv29⟩, h⟩
    refine ⟨_, rfl, ?_⟩
    refine st (bi rfl rfl rfl) <| xe <| nx <| ?_
    rcases Bool.eq_false_or_eq_true ((v29 : Int) == 0) with hd31 | hd31
    ·have hg32 := eq_of_beq hd31
     refine ct rfl hd31 <| rg <| st (fa fo_75_2 rfl) <| st (ld one_40 rfl (h.c a1 rfl)) <| st (bi rfl rfl rfl) <| st (fa fo_75_2 rfl) <| sf (so h rfl rfl rfl sz_40 rfl (.s (.s (.s (.s (.s (.r .d)))))) u1) <| ?_
     rintro _ w h
     refine xe <| nx <| ?_
     exact ⟨IntKind.wrap .i64 (l1 + 1), i30, ⟨rfl, rfl, rfl, rfl, rfl, rfl, rfl, trivial⟩, (h.fr (.c r1 (.c r0 (.c r0 (.c r0 (.c r0 (.c r0 .n)))))))⟩
    ·have hg33 := ne_of_beq_false hd31
     refine cf rfl hd31 <| sk <| nx <| ?_
     exact ⟨l1, i30, ⟨rfl, rfl, rfl, rfl, rfl, rfl, rfl, trivial⟩, (h.fr (.c r1 (.c r0 (.c r0 (.c r0 (.c r0 (.c r0 .n)))))))⟩
   rintro e w ⟨l2, i9, hE, h⟩
   refine C.sub hE ?_
   clear hE e
   refine rg <| st (mv rfl) <| st (ldr rfl (rows_all (h.b a0)) row_75) <| sf (bu [.int .i64 v7, .int .i64 (1 + v9), .int .i64 (1 + v11), .int .i64 v13, .int .i64 v15, .int .i64 l2, .bool sw] h sl_69 ss_75 rfl (by kernel_rfl) rfl (by decide) (by decide)) <| ?_
   rintro _ w ⟨b34, rfl, h⟩
   refine sf (ap h sl_69 rfl ss_75 rfl (by decide) rfl rfl (fun _ => u3) (h.ro a0) (by simp [Value.oneCell']) rfl (join_rows (enc := entC) _ (({ thread := v7, acc := { kind := 1 + v9, cell := 1 + v11, old := v13, new := v15 }, loaded := l2, swapped := sw } : Ct.Ent))) (by unfold maxLen; omega) (by omega)) <| ?_
   rintro _ w ⟨p35, c36, rfl, h⟩
   refine st (sg rfl) <| xe <| bn <| nx <| rg <| st (mv rfl) <| st (bw rfl rfl (wadd (c := ((k + 1 : Nat) : Int)) (by omega) (by omega) (by omega))) <| st (sg rfl) <| xe <| nx <| ?_
   exact ⟨(k + 1, i9, zs, es ++ [({ thread := v7, acc := { kind := 1 + v9, cell := 1 + v11, old := v13, new := v15 }, loaded := l2, swapped := sw } : Ct.Ent)], p35, c36), ⟨rfl, rfl, rfl, rfl, trivial⟩, ⟨(h.drop.drop.fr (.c r1 (.c r0 (.c r0 (.c r0 (.c r0 .n)))))), by (try dsimp only); omega, hz, by simp [he]⟩, by (try dsimp only); omega⟩
  ·refine cf rfl hd6 <| xt <| tx <| tx <| be <| nx <| sq <| rg <| st (mv rfl) <| st (sg rfl) <| xe <| nx <| rt <| ?_
   refine rr (res1 Tryz.results32 rfl) <| ⟨es, p9, c9, k, he, by omega, rfl, ((h.fr (.c r0 (.c r1 .n))).drop.drop).fz⟩
 ·have hg37 := of_decide_eq_false hd4
  refine gF rfl rfl hd4 <| gF rfl rfl hd4 <| st (pF rfl hd4 rfl) <| xe <| nx <| cF rfl <| xt <| tx <| tx <| be <| nx <| sq <| rg <| st (mv rfl) <| st (sg rfl) <| xe <| nx <| rt <| ?_
  refine rr (res1 Tryz.results32 rfl) <| ⟨es, p9, c9, k, he, by omega, rfl, ((h.fr (.c r1 (.c r1 .n))).drop.drop).fz⟩
end Go.Proofs.YtjlgchdekhmnnaaGreatDoor
end
section
namespace Go.E
variable {P : Program} {n : Nat} {K : Post} {e : Tm} {w : World} {ops : Array Oper} {l : List Oper} {S : World → Prop} {ls : List (Oper × Bool)} {B : World} {L L' : List As}
theorem wpQ {o : Oper} {a : Act} {R : Act → World → Prop} {Q Q' : Exit → Act → World → Prop} (h1 : ∀ c a w, Q' (.panic c) a w → Q (.panic c) a w) (h2 : LetsOut Q' → LetsOut Q) (h : o.wp P a w R Q') : o.wp P a w R Q := by
 unfold Oper.wp at h ⊢
 generalize (execOp a.eval o).run P w = r at *
 cases r with
 | ok x w' =>
  cases x <;> simp only [Oper.upon] at h ⊢ <;> first
   | exact h
   | (refine Calls.mono h fun e w'' he => ?_; cases e <;> first | exact he | exact h1 _ _ _ he | exact h2 he)
 | halt x w' => cases x <;> simp only [Oper.upon] at h ⊢ <;> first | exact h1 _ _ _ h | exact h
def wpAnyZ (P : Program) (md : Region.Mode) (ops : Array Oper) (Q : Exit → Act → World → Prop) (S : World → Prop) (z : Nat) : Nat → Array Bool → Act → World → Prop
 | 0, listed, a, w => Region.ready md ops listed = [] ∧ Q .normal a w
 | fuel + 1, listed, a, w =>
  (Region.ready md ops listed = [] → Q .normal a w) ∧
  ∀ i ∈ Region.ready md ops listed, wpOp P ops Q i (fun a' w' => (i ≠ z → S w') ∧ wpAnyZ P md ops Q S z fuel (listed.setIfInBounds i true) a' w') a w
variable {md : Region.Mode} {Q : Exit → Act → World → Prop} {z : Nat}
theorem wpAny_of_Z : ∀ (fuel : Nat) (listed : Array Bool) (a : Act) (w : World), wpAnyZ P md ops Q S z fuel listed a w → wpAny P md ops Q fuel listed a w
 | 0, _, _, _, h => h
 | fuel + 1, _, _, _, h => ⟨h.1, fun i hi => wpOp_mono (fun a' w' h' => wpAny_of_Z fuel _ a' w' h'.2) (h.2 i hi)⟩
theorem wpAnyZ_first {i : Nat} {oi : Oper} {v : Value} (hi : ops[i]? = some oi) (hiz : i ≠ z) (hz : ∀ oz, ops[z]? = some oz → ∃ e ∈ oz.after, Region.binds md e = true ∧ e.on = i) (hsel : ∀ (j : Nat) (o : Oper) cs b, ops[j]? = some o → o.op ≠ .select cs b)
  (hQ : ∀ c a w, Q (.panic c) (a.put oi.dst v) w → Q (.panic c) a w) :
  ∀ (fuel : Nat) (listed : Array Bool) (a : Act) (w : World),
   (∀ j oj, ops[j]? = some oj → j ≠ i → listed.getD j true = false → (∀ e ∈ oj.after, Region.binds md e = true → e.on ≠ i) → oi.apart ops oj = true) →
   i ∈ Region.ready md ops listed → YieldsIf P ops S oi v a → S w →
   wpAnyZ P md ops Q S z fuel (listed.setIfInBounds i true) (a.put oi.dst v) w → wpAnyZ P md ops Q S z (fuel + 1) listed a w := by
 intro fuel
 induction fuel with
 | zero =>
  intro listed a w _ hr hy hS H
  refine ⟨fun h => (by rw [h] at hr; cases hr), fun j hj => ?_⟩
  by_cases hji : j = i
  ·subst hji; exact hy.wpOp hi hS ⟨fun _ => hS, H⟩
  ·have := ready_mono hj hji
   rw [H.1] at this
   cases this
 | succ fuel ih =>
  intro listed a w hfree hr hy hS H
  refine ⟨fun h => (by rw [h] at hr; cases hr), fun j hj => ?_⟩
  by_cases hji : j = i
  ·subst hji; exact hy.wpOp hi hS ⟨fun _ => hS, H⟩
  ·have h1 := H.2 j (ready_mono hj hji)
   obtain ⟨hjun, oj, hoj, hall⟩ := mem_ready.1 hj
   have hnot : ∀ e ∈ oj.after, Region.binds md e = true → e.on ≠ i := fun e he hb heq => by
    have h1 := hall e he hb
    have h0 := (mem_ready.1 hr).1
    rw [heq] at h1
    rcases Nat.lt_or_ge i listed.size with h' | h'
    ·simp [h'] at h0 h1; rw [h0] at h1; cases h1
    ·simp [Array.getElem?_eq_none h'] at h1
   have hjz : j ≠ z := fun ez => by
    subst ez
    obtain ⟨e, he, hb, hei⟩ := hz oj hoj
    exact hnot e he hb hei
   have h2 := wpOp_putIf hoj (hfree j oj hoj hji hjun hnot) (fun cs b => hsel i oi cs b hi) (fun cs b => hsel j oj cs b hoj) hQ hy h1
   have hfree' : ∀ k ok, ops[k]? = some ok → k ≠ i → (listed.setIfInBounds j true).getD k true = false →
     (∀ e ∈ ok.after, Region.binds md e = true → e.on ≠ i) → oi.apart ops ok = true := fun k ok hk hki hun hno => by
    refine hfree k ok hk hki ?_ hno
    by_cases hjk : j = k
    ·subst hjk; exact hjun
    ·rw [getD_set_ne true hjk] at hun; exact hun
   refine wpOp_mono (fun a' w' h3 => ⟨h3.2.1, ih (listed.setIfInBounds j true) a' w' hfree' (ready_mono hr (Ne.symm hji)) h3.1 (h3.2.1 hjz) ?_⟩) h2
   rw [Array.setIfInBounds_comm _ _ hji]
   exact h3.2.2
def waits (md : Region.Mode) (ops : Array Oper) (z i : Nat) : Bool := match ops[z]? with
 | some oz => oz.after.any fun e => Region.binds md e && Nat.beq e.on i
 | none => false
theorem waits_spec {i : Nat} (h : waits md ops z i = true) : ∀ oz, ops[z]? = some oz → ∃ e ∈ oz.after, Region.binds md e = true ∧ e.on = i := fun oz ho => by
 unfold waits at h
 rw [ho] at h
 obtain ⟨k, hk, h1⟩ := Array.any_eq_true.1 h
 simp only [Bool.and_eq_true] at h1
 exact ⟨oz.after[k], Array.getElem_mem hk, h1.1, Nat.eq_of_beq_eq_true h1.2⟩
def chkZ (ops : Array Oper) (z : Nat) : List (Nat × Bool) → Array Bool → Bool
 | [], listed => (Region.ready .any ops listed == [z]) && (Region.ready .any ops (listed.setIfInBounds z true) == [])
 | (i, true) :: is, listed => (!Nat.beq i z) && waits .any ops z i && Region.free .any ops listed i && (Region.ready .any ops listed).contains i && chkZ ops z is (listed.setIfInBounds i true)
 | (i, false) :: is, listed => (!Nat.beq i z) && (Region.ready .any ops listed == [i]) && chkZ ops z is (listed.setIfInBounds i true)
def zK (P : Program) (n : Nat) (ops : Array Oper) (oz : Oper) (K : Post) : Post
 | .normal, e, w => X P n ops [oz] K e w
 | x, e, w => K x e w
theorem beq_ne {i z : Nat} (h : (!Nat.beq i z) = true) : i ≠ z := fun e => by subst e; rw [Nat.beq_refl] at h; cases h
theorem wpS_Z (hs : Region.noSelect ops = true) (hz : z < ops.size) : ∀ (is : List (Nat × Bool)) (listed : Array Bool) (a : Act) (w : World),
  chkZ ops z is listed = true → (∀ p ∈ is, p.1 < ops.size) → S w → wpS P ops (lift n (zK P n ops (ops.getD z default) K)) S (opsOf ops is) a w → wpAnyZ P .any ops (lift n K) S z (is.length + 1) listed a w
 | [], listed, a, w, hc, _, _, h => by
  simp only [chkZ, Bool.and_eq_true, beq_iff_eq] at hc
  refine ⟨fun h0 => (by rw [hc.1] at h0; cases h0), fun j hj => ?_⟩
  rw [hc.1] at hj
  have hj : j = z := by simpa using hj
  subst hj
  have hd : ops.getD j default = ops[j] := by simp [Array.getD, hz]
  have ho : ops[j]? = some (ops.getD j default) := by rw [hd]; simp [hz]
  obtain ⟨e, h1, h2⟩ := h
  have h3 : wpL P ops (lift n K) [ops.getD j default] a w := h2 a h1
  unfold wpL at h3
  unfold wpOp
  rw [ho]
  dsimp only
  have key : ∀ a' w', lift n K .normal a' w' → (j ≠ j → S w') ∧ wpAnyZ P .any ops (lift n K) S j 0 (listed.setIfInBounds j true) a' w' := fun a' w' hq => ⟨fun hn => absurd rfl hn, hc.2, hq⟩
  by_cases hw : Region.wanted (ops.getD j default) (yielded ops a.tmps) = true
  ·rw [if_pos hw] at h3
   rw [if_pos hw]
   exact .inl (Oper.wp_mono (fun a w hh => key a w hh) h3)
  ·rw [if_neg hw] at h3
   rw [if_neg hw]
   exact key _ _ h3
 | (i, true) :: is, listed, a, w, hc, hi, hS, h => by
  simp only [chkZ, Bool.and_eq_true] at hc
  obtain ⟨v, h1, h2⟩ := h
  have hlt : i < ops.size := hi (i, true) (by simp)
  have hd : ops.getD i default = ops[i] := by simp [Array.getD, hlt]
  have ho : ops[i]? = some (ops.getD i default) := by rw [hd]; simp [hlt]
  exact wpAnyZ_first ho (beq_ne hc.1.1.1.1) (waits_spec hc.1.1.1.2) (Region.noSelect_spec hs) (fun c a w hq => absurd hq (fun h => h)) _ _ _ _ (Region.free_spec ho hc.1.1.2) (by simpa using hc.1.2) h1 hS (wpS_Z hs hz is _ _ _ hc.2 (fun p hp => hi p (by simp [hp])) hS h2)
 | (i, false) :: is, listed, a, w, hc, hi, hS, h => by
  simp only [chkZ, Bool.and_eq_true, beq_iff_eq] at hc
  have hlt : i < ops.size := hi (i, false) (by simp)
  have hd : ops.getD i default = ops[i] := by simp [Array.getD, hlt]
  have ho : ops[i]? = some (ops.getD i default) := by rw [hd]; simp [hlt]
  have hi' : ∀ p ∈ is, p.1 < ops.size := fun p hp => hi p (by simp [hp])
  refine ⟨fun h0 => (by rw [hc.1.2] at h0; cases h0), fun j hj => ?_⟩
  rw [hc.1.2] at hj
  have hj : j = i := by simpa using hj
  rw [hj]
  clear hj
  unfold wpOp
  rw [ho]
  dsimp only
  unfold opsOf at h
  rw [List.map_cons] at h
  unfold wpS at h
  dsimp only at h
  by_cases hw : Region.wanted (ops.getD i default) (yielded ops a.tmps) = true
  ·rw [if_pos hw] at h ⊢
   refine .inl (wpQ (Q' := lift n (zK P n ops (ops.getD z default) K)) (fun _ _ _ h => h) (fun h => h) (Oper.wp_mono (fun a w hh => ⟨fun _ => hh.1, wpS_Z hs hz is _ _ _ hc.2 hi' hh.1 hh.2⟩) h))
  ·rw [if_neg hw] at h ⊢
   exact ⟨fun _ => hS, wpS_Z hs hz is _ _ _ hc.2 hi' hS h⟩
def chkAllZ (P : Program) (ops : Array Oper) (is : List (Nat × Bool)) (z : Nat) : Bool :=
 P.follows .mixedOrders && Region.noSelect ops && (is.all fun p => Nat.blt p.1 ops.size) && Nat.blt z ops.size && is.length + 1 == ops.size && chkZ ops z is (Array.replicate ops.size false)
theorem drZ {id : Nat} {F : List As} (is : List Nat) (z : Nat) (hc : chkAllZ P ops (dec is) z = true) (h : SH B w L) (p : ∀ w, SH B w L → Hs F w) (k : ∀ w, SH B w L → XS P n ops (Hs F) (opsOf ops (dec is)) (zK P n ops (ops.getD z default) K) e w) : C P n (.region id ops true) K e w := fun a ha => by
 simp only [chkAllZ, Bool.and_eq_true, beq_iff_eq, List.all_eq_true] at hc
 obtain ⟨⟨⟨⟨⟨h1, h2⟩, h3⟩, h6⟩, h4⟩, h5⟩ := hc
 refine wp_region_any h1 ?_
 have hd := h.drew
 have := wpS_Z (P := P) (K := K) (S := Hs F) (n := n) h2 (blt_lt.1 h6) (dec is) _ a w.drew h5 (fun p hp => blt_lt.1 (h3 p hp)) (p _ hd) (k _ hd a ha)
 rw [h4] at this
 exact wpAny_of_Z _ _ _ _ this
theorem xzZ (h : X P n ops [ops.getD z default] K e w) : XS P n ops S [] (zK P n ops (ops.getD z default) K) e w := xz h
variable {d : Option Tmp} {ty : TypeId} {ps : String} {af : Array Edge} {g : Option (Nat × Bool)}
theorem mk0 {t el : TypeId} {x y : Operand} {z : Value} {sz bt m : Nat} {k k' : IntKind} (h : SH B w L) (ht : P.underlying t = some (.slice el)) (hz : sizes P el = some (z, sz, bt)) (hx : ev n e x = some (.int k 0)) (hy : ev n e y = some (.int k' (m : Nat))) (hb : bt * m ≤ 281474976710656) (h63 : m ≤ maxLen) :
  F P n e ⟨d, .makeSlice t x y, ty, ps, af, g⟩ w fun v w' => ∃ b, v = .slice (some ⟨b, 0, none⟩) 0 m ∧ SH B w' (osl el sz (.slice (some ⟨b, 0, none⟩) 0 m) 0 [] :: L) := by
 obtain ⟨i, h1, h2, h3, h4⟩ := sizes_spec hz
 obtain ⟨w', g1, g2, g3⟩ := run_make_own (P := P) w 0 t el i z sz ht h1 h2 h3 k k' m (by rw [h4]; exact hb) h63 (Nat.zero_le _)
 exact ⟨_, w', .inl fun a ha => by simp [execOp, ha.eval hx, ha.eval hy, g1], _, rfl, osl_new h g3 g2⟩
end Go.E
end
section
namespace Go.E
variable {P : Program} {n : Nat} {K : Post} {e : Tm} {w : World} {ops : Array Oper} {l : List Oper} {S : World → Prop} {ls : List (Oper × Bool)} {B : World} {L L' : List As}
def chkB (ops : Array Oper) (i j : Nat) (q1 q2 : List (Nat × Bool)) : List (Nat × Bool) → Array Bool → Bool
 | [], listed => (Region.ready .any ops listed == [i, j]) && chk ops q1 (listed.setIfInBounds i true) && chk ops q2 (listed.setIfInBounds j true)
 | (k, true) :: is, listed => Region.free .any ops listed k && (Region.ready .any ops listed).contains k && chkB ops i j q1 q2 is (listed.setIfInBounds k true)
 | (k, false) :: is, listed => (Region.ready .any ops listed == [k]) && chkB ops i j q1 q2 is (listed.setIfInBounds k true)
def bK (P : Program) (n : Nat) (ops : Array Oper) (S : World → Prop) (i j : Nat) (q1 q2 : List (Nat × Bool)) (K : Post) : Post
 | .normal, e, w => XS P n ops S (opsOf ops ((i, false) :: q1)) K e w ∧ XS P n ops S (opsOf ops ((j, false) :: q2)) K e w
 | x, e, w => K x e w
theorem wpS_one (hs : Region.noSelect ops = true) {i : Nat} {q : List (Nat × Bool)} {listed : Array Bool} {a : Act} {w : World} (hi : i < ops.size) (hq : ∀ p ∈ q, p.1 < ops.size) (hc : chk ops q (listed.setIfInBounds i true) = true) (hS : S w)
  (h : wpS P ops (lift n K) S (opsOf ops ((i, false) :: q)) a w) : wpOp P ops (lift n K) i (fun a' w' => S w' ∧ wpAnyH P .any ops (lift n K) S q.length (listed.setIfInBounds i true) a' w') a w := by
 have hd : ops.getD i default = ops[i] := by simp [Array.getD, hi]
 have ho : ops[i]? = some (ops.getD i default) := by rw [hd]; simp [hi]
 unfold wpOp
 rw [ho]
 dsimp only
 unfold opsOf at h
 rw [List.map_cons] at h
 unfold wpS at h
 dsimp only at h
 by_cases hw : Region.wanted (ops.getD i default) (yielded ops a.tmps) = true
 ·rw [if_pos hw] at h ⊢
  exact .inl (Oper.wp_mono (fun a w hh => ⟨hh.1, wpS_any hs (fun c a w hq => hq) q _ _ _ hc hq hh.1 hh.2⟩) h)
 ·rw [if_neg hw] at h ⊢
  exact ⟨hS, wpS_any hs (fun c a w hq => hq) q _ _ _ hc hq hS h⟩
theorem wpS_B {i j : Nat} {q1 q2 : List (Nat × Bool)} (hs : Region.noSelect ops = true) (hi : i < ops.size) (hj : j < ops.size) (h1 : ∀ p ∈ q1, p.1 < ops.size) (h2 : ∀ p ∈ q2, p.1 < ops.size) (hl : q2.length = q1.length) : ∀ (is : List (Nat × Bool)) (listed : Array Bool) (a : Act) (w : World),
  chkB ops i j q1 q2 is listed = true → (∀ p ∈ is, p.1 < ops.size) → S w → wpS P ops (lift n (bK P n ops S i j q1 q2 K)) S (opsOf ops is) a w → wpAnyH P .any ops (lift n K) S (is.length + 1 + q1.length) listed a w
 | [], listed, a, w, hc, _, hS, h => by
  simp only [chkB, Bool.and_eq_true, beq_iff_eq] at hc
  obtain ⟨e, g1, g2, g3⟩ := h
  rw [show ([] : List (Nat × Bool)).length + 1 + q1.length = q1.length + 1 by simp; omega]
  refine wpAnyH_all hc.1.1 (by simp) ?_
  intro k hk
  rcases List.mem_cons.1 hk with hk | hk
  ·subst hk
   exact wpS_one hs hi h1 hc.1.2 hS (g2 a g1)
  ·have hk : k = j := by simpa using hk
   subst hk
   have := wpS_one (listed := listed) hs hj h2 hc.2 hS (g3 a g1)
   rw [hl] at this
   exact this
 | (k, true) :: is, listed, a, w, hc, hb, hS, h => by
  simp only [chkB, Bool.and_eq_true] at hc
  obtain ⟨v, g1, g2⟩ := h
  have hlt : k < ops.size := hb (k, true) (by simp)
  have hd : ops.getD k default = ops[k] := by simp [Array.getD, hlt]
  have ho : ops[k]? = some (ops.getD k default) := by rw [hd]; simp [hlt]
  rw [show ((k, true) :: is).length + 1 + q1.length = (is.length + 1 + q1.length) + 1 by simp; omega]
  exact wpAnyH_take ho hs hc.1.1 hc.1.2 (fun c a w hq => hq.elim) g1 hS (wpS_B hs hi hj h1 h2 hl is _ _ _ hc.2 (fun p hp => hb p (by simp [hp])) hS g2)
 | (k, false) :: is, listed, a, w, hc, hb, hS, h => by
  simp only [chkB, Bool.and_eq_true, beq_iff_eq] at hc
  have hlt : k < ops.size := hb (k, false) (by simp)
  have hd : ops.getD k default = ops[k] := by simp [Array.getD, hlt]
  have ho : ops[k]? = some (ops.getD k default) := by rw [hd]; simp [hlt]
  have hb' : ∀ p ∈ is, p.1 < ops.size := fun p hp => hb p (by simp [hp])
  rw [show ((k, false) :: is).length + 1 + q1.length = (is.length + 1 + q1.length) + 1 by simp; omega]
  refine wpAnyH_all hc.1 (by simp) ?_
  intro j' hj'
  have hj' : j' = k := by simpa using hj'
  rw [hj']
  clear hj'
  unfold wpOp
  rw [ho]
  dsimp only
  unfold opsOf at h
  rw [List.map_cons] at h
  unfold wpS at h
  dsimp only at h
  by_cases hw : Region.wanted (ops.getD k default) (yielded ops a.tmps) = true
  ·rw [if_pos hw] at h ⊢
   exact .inl (wpQ (Q' := lift n (bK P n ops S i j q1 q2 K)) (fun _ _ _ h => h) (fun h => h) (Oper.wp_mono (fun a w hh => ⟨hh.1, wpS_B hs hi hj h1 h2 hl is _ _ _ hc.2 hb' hh.1 hh.2⟩) h))
  ·rw [if_neg hw] at h ⊢
   exact ⟨hS, wpS_B hs hi hj h1 h2 hl is _ _ _ hc.2 hb' hS h⟩
def chkAllB (P : Program) (ops : Array Oper) (is : List (Nat × Bool)) (i j : Nat) (q1 q2 : List (Nat × Bool)) : Bool :=
 P.follows .mixedOrders && Region.noSelect ops && (is.all fun p => Nat.blt p.1 ops.size) && Nat.blt i ops.size && Nat.blt j ops.size && (q1.all fun p => Nat.blt p.1 ops.size) && (q2.all fun p => Nat.blt p.1 ops.size) && q2.length == q1.length && is.length + 1 + q1.length == ops.size && chkB ops i j q1 q2 is (Array.replicate ops.size false)
theorem drB {id : Nat} {F : List As} (is : List Nat) (i j : Nat) (q1 q2 : List Nat) (hc : chkAllB P ops (dec is) i j (dec q1) (dec q2) = true) (h : SH B w L) (p : ∀ w, SH B w L → Hs F w) (k : ∀ w, SH B w L → XS P n ops (Hs F) (opsOf ops (dec is)) (bK P n ops (Hs F) i j (dec q1) (dec q2) K) e w) : C P n (.region id ops true) K e w := fun a ha => by
 simp only [chkAllB, Bool.and_eq_true, beq_iff_eq, List.all_eq_true] at hc
 obtain ⟨⟨⟨⟨⟨⟨⟨⟨⟨h1, h2⟩, h3⟩, h4⟩, h5⟩, h6⟩, h7⟩, h8⟩, h9⟩, h10⟩ := hc
 refine wp_region_held (S := Hs F) h1 ?_
 have hd := h.drew
 have := wpS_B (P := P) (K := K) (S := Hs F) (n := n) h2 (blt_lt.1 h4) (blt_lt.1 h5) (fun p hp => blt_lt.1 (h6 p hp)) (fun p hp => blt_lt.1 (h7 p hp)) h8 (dec is) _ a w.drew h10 (fun p hp => blt_lt.1 (h3 p hp)) (p _ hd) (k _ hd a ha)
 rw [h9] at this
 exact this
theorem xzB {i j : Nat} {q1 q2 : List (Nat × Bool)} (h1 : XS P n ops S (opsOf ops ((i, false) :: q1)) K e w) (h2 : XS P n ops S (opsOf ops ((j, false) :: q2)) K e w) : XS P n ops S [] (bK P n ops S i j q1 q2 K) e w := xz ⟨h1, h2⟩
end Go.E
end
section
namespace Go.Proofs.YtjlgchdekhmnnaaGreatDoor
open Go.E
theorem bd_58 : bdn Tryz.prog 58 = some ([.slice none 0 0, .slice none 0 0, .int .i64 0], [(0, 1), (1, 1), (2, 1)]) := by kernel_rfl
theorem fo_125_0 : fo Tryz.prog 125 0 = some 0 := by kernel_rfl
theorem fo_58_0 : fo Tryz.prog 58 0 = some 0 := by kernel_rfl
theorem fo_93_0 : fo Tryz.prog 93 0 = some 0 := by kernel_rfl
theorem fo_93_1 : fo Tryz.prog 93 1 = some 1 := by kernel_rfl
theorem fo_93_2 : fo Tryz.prog 93 2 = some 2 := by kernel_rfl
theorem one_23 : oneC Tryz.prog 23 = true := by kernel_rfl
theorem one_55 : oneC Tryz.prog 55 = true := by kernel_rfl
theorem one_56 : oneC Tryz.prog 56 = true := by kernel_rfl
theorem row_58 : rowN Tryz.prog 58 = some 3 := by kernel_rfl
theorem sl_55 : Tryz.prog.underlying 55 = some (.slice 136) := by kernel_rfl
theorem ss_136 : sizes Tryz.prog 136 = some (.agg [.int .i64 0, .int .i64 0, .int .i64 0, .int .u64 0, .slice none 0 0, .int .u64 0, .string .empty, .int .u64 0, .slice none 0 0, .int .i64 0, .int .i64 0, .int .i64 0, .int .i64 0, .int .i64 0].toArray, 14, 152) := by kernel_rfl
theorem sz_55 : (Tryz.prog.info? 55).map (·.size) = some 1 := by kernel_rfl
theorem sz_58 : (Tryz.prog.info? 58).map (·.size) = some 3 := by kernel_rfl
theorem un_23 : Tryz.prog.underlying 23 = some (.pointer 93) := by kernel_rfl
theorem zc_58 : zc Tryz.prog 58 = some [.slice none 0 0, .slice none 0 0, .int .i64 0] := by kernel_rfl
theorem en_92 : Ents Tryz.prog 92 := enG Tryz.func92 rfl rfl
theorem en_58 : Ents Tryz.prog 58 := enG Tryz.func58 rfl rfl
theorem en_91 : Ents Tryz.prog 91 := enG Tryz.func91 rfl rfl
theorem en_21 : Ents Tryz.prog 21 := enG Tryz.func21 rfl rfl
end Go.Proofs.YtjlgchdekhmnnaaGreatDoor
end
