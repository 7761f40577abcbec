/- Parts of a proof: Tyq, Aw4, Typ, Ls4, Tyo, Lc4. -/
import Derived.Test.YtjlgchdekhmnnaaGreatDoorTS05
import Derived.Test.YtjlgchdekhmnnaaGreatDoorTS06
import Derived.Test.YtjlgchdekhmnnaaGreatDoorTS07
import Derived.Test.YtjlgchdekhmnnaaGreatDoorTS08
import Derived.Test.YtjlgchdekhmnnaaGreatDoorTS09
import Derived.Test.YtjlgchdekhmnnaaGreatDoorTS10
set_option linter.unusedVariables false
set_option linter.unusedSimpArgs false
section
namespace Go.Proofs.YtjlgchdekhmnnaaGreatDoor
open Go.E
theorem bd_35 : bdn Tryz.prog 35 = some ([.int .i64 0, .int .i64 0, .string .empty, .int .u64 0, .int .u64 0], [(0, 1), (1, 1), (2, 1), (3, 1), (4, 1)]) := by kernel_rfl
theorem bd_50 : bdn Tryz.prog 50 = some ([.int .u64 0, .slice none 0 0, .slice none 0 0], [(0, 1), (1, 1), (2, 1)]) := by kernel_rfl
theorem eq_73 : eqf Tryz.prog 73 = some [.i .i64, .i .i64, .i .i64, .i .i64] := by kernel_rfl
theorem sl_119 : Tryz.prog.underlying 119 = some (.slice 35) := by kernel_rfl
theorem sl_48 : Tryz.prog.underlying 48 = some (.slice 119) := by kernel_rfl
theorem ss_119 : sizes Tryz.prog 119 = some (.slice none 0 0, 1, 24) := by kernel_rfl
theorem ss_35 : sizes Tryz.prog 35 = some (.agg [.int .i64 0, .int .i64 0, .string .empty, .int .u64 0, .int .u64 0].toArray, 5, 48) := by kernel_rfl
theorem en_37 : Ents Tryz.prog 37 := enG Tryz.func37 rfl rfl
end Go.Proofs.YtjlgchdekhmnnaaGreatDoor
end
section
open Go Go.RowKit Go.E
namespace Go.Proofs.YtjlgchdekhmnnaaGreatDoor
theorem ex5 : Ct.executeF [5] [({ acc := { kind := 1, cell := 1 }, loaded := 5 } : Ct.Ent)] 0 = (1, 0, [5]) := by decide
theorem ex4 : Ct.executeF [4] [({ acc := { kind := 1, cell := 1 }, loaded := 5 } : Ct.Ent)] 0 = (0, 8, [4]) := by decide
theorem rec3 : (recM [0, 0, 0, 0] (newM 0 [[({ kind := 7 } : Ct.Op)]], [], [])).2.2.length = 3 := by decide
theorem kinds7 : KindsOk [[({ kind := 7 } : Ct.Op)]] := fun os h o ho => by
 obtain rfl : os = _ := by simpa using h
 obtain rfl : o = _ := by simpa using ho
 exact ⟨.inr (.inr ⟨rfl, by decide⟩), .inr rfl⟩
theorem fz12 {B w : World} {L : List As} {e1 e2 : TypeId} {s1 s2 n1 n2 : Nat} {v1 v2 : Value} {x1 x2 : List Value} (h : SH B w (osl e1 s1 v1 n1 x1 :: osl e2 s2 v2 n2 x2 :: L)) : SH B w (rsl s1 v1 n1 x1 :: rsl s2 v2 n2 x2 :: L) :=
 ((h.fz.fr (.c r1 (.c r0 .n))).fz.fr (.c r1 (.c r0 .n)))
theorem toTh {B w : World} {L : List As} {e1 e2 e3 : TypeId} {v1 v2 : Value} {n1 b2 : Nat} {x1 : List Value} {o : Ct.Op} (h : SH B w (osl e1 1 v1 n1 x1 :: osl e2 1 v2 1 [.slice (some ⟨b2, 0, none⟩) 1 1] :: osl e3 5 (.slice (some ⟨b2, 0, none⟩) 1 1) 1 (opC o) :: L)) : SH B w (rsl 1 v1 n1 x1 :: thA v2 [[o]] :: L) := by
 have h := (h.fr (.c r1 (.c r1 (.c r0 .n))))
 have h : SH B w (osl e2 1 v2 1 [.slice (some ⟨b2, 0, none⟩) 1 1] :: osl e3 5 (.slice (some ⟨b2, 0, none⟩) 1 1) 1 (opC o) :: osl e1 1 v1 n1 x1 :: L) := h
 have h := fz12 h
 have h := SH.is (l := [_, _]) h
 have h : SH B w (thA v2 [[o]] :: osl e1 1 v1 n1 x1 :: L) := h.wk fun O R hA => by
  obtain ⟨Os, Rs, g1, g2, g3, g4⟩ := hA
  have k0 := g1 0 _ rfl
  have k1 := g1 1 _ rfl
  refine ⟨fun _ => False, R, ⟨fun _ h => h, fun k hr => ?_, [_], rfl, k0.1, fun k hk => (g4 k).2 ⟨0, by simp, (k0.2.2 k).2 hk⟩, fun i ov os q1 q2 => ?_⟩, fun _ h => h.elim, fun k hk => .inr hk⟩
  ·obtain ⟨i, hi, hr⟩ := (g4 k).1 hr
   have : i = 0 ∨ i = 1 := by simp at hi; omega
   rcases this with rfl | rfl
   ·exact As.dom _ k0 (.inr hr)
   ·exact As.dom _ k1 (.inr hr)
  ·cases i with
   | zero =>
    simp only [List.getElem?_cons_zero, Option.some.injEq] at q1 q2
    subst q1 q2
    exact ⟨by simpa using k1.1, fun k hk => (g4 k).2 ⟨1, by simp, (k1.2.2 k).2 hk⟩⟩
   | succ i => simp at q1
 exact ((h.fr (.c r1 (.c r0 .n)))).fz
set_option maxRecDepth 100000 in
theorem awake_any {B w : World} {L : List As}  (h : SH B w (L)) :
  Calls Tryz.prog 37 #[] w fun e w' => e = .returned (.bool true) ∧ SH B w' L := by
 refine bgn (args := []) Tryz.func37 rfl Tryz.ntmps37 rfl ?_
 refine sq <| rg <| st (sg rfl) <| xe <| nx <| sq <| rg <| st (bd [.int .i64 1, .int .i64 1, .int .i64 0, .int .i64 0] bd_73 rfl (by kernel_rfl)) <| st (bd [.int .i64 0, .int .i64 1, .int .i64 1, .int .i64 0, .int .i64 0, .int .i64 5, .bool false] bd_75 rfl (by kernel_rfl)) <| sf (bu [.int .i64 0, .int .i64 1, .int .i64 1, .int .i64 0, .int .i64 0, .int .i64 5, .bool false] h sl_69 ss_75 rfl (by kernel_rfl) rfl (by decide) (by decide)) <| ?_
 rintro _ w ⟨b1, rfl, h⟩
 refine st (sg rfl) <| xe <| nx <| sq <| rg <| sf (bu [.int .i64 5] h sl_56 ss_40 rfl (by kernel_rfl) rfl (by decide) (by decide)) <| ?_
 rintro _ w ⟨b2, rfl, h⟩
 refine st (mv rfl) <| cl (ca en_33 rfl) ((Check_any ([5] : List Int) (some ⟨b2, 0, none⟩) 1 (by decide) [({ acc := { kind := 1, cell := 1 }, loaded := 5 } : Ct.Ent)] (some ⟨b1, 0, none⟩) 1 (by decide) (fz12 (h.fr (.c r0 (.c r0 .n))))).mono ?_)
 rintro _ w ⟨rfl, h⟩
 refine ⟨_, rfl, ?_⟩
 refine st (mv rfl) <| st (xr rfl rfl) <| st (xr rfl rfl) <| st (sg rfl) <| st (sg rfl) <| xe <| nx <| sq <| rg <| sf (bu [.int .i64 4] h sl_56 ss_40 rfl (by kernel_rfl) rfl (by decide) (by decide)) <| ?_
 rintro _ w ⟨b3, rfl, h⟩
 refine st (mv rfl) <| cl (ca en_33 rfl) ((Check_any ([4] : List Int) (some ⟨b3, 0, none⟩) 1 (by decide) [({ acc := { kind := 1, cell := 1 }, loaded := 5 } : Ct.Ent)] (some ⟨b1, 0, none⟩) 1 (by decide) (SH.fz (h.fr (.c r0 (.c r1 .n))))).mono ?_)
 rintro _ w ⟨rfl, h⟩
 refine ⟨_, rfl, ?_⟩
 refine st (mv rfl) <| st (xr rfl rfl) <| st (xr rfl rfl) <| st (sg rfl) <| st (sg rfl) <| xe <| nx <| sq <| rg <| st (bd [.int .i64 7, .int .i64 0, .string .empty, .int .u64 0, .int .u64 0] bd_35 rfl (by kernel_rfl)) <| sf (bu [.int .i64 7, .int .i64 0, .string .empty, .int .u64 0, .int .u64 0] h sl_119 ss_35 rfl (by kernel_rfl) rfl (by decide) (by decide)) <| ?_
 rintro _ w ⟨b4, rfl, h⟩
 refine sf (bu [.slice (some ⟨b4, 0, none⟩) 1 1] h sl_48 ss_119 rfl (by kernel_rfl) rfl (by decide) (by decide)) <| ?_
 rintro _ w ⟨b5, rfl, h⟩
 refine sf (bu [.int .i64 0, .int .i64 0, .int .i64 0, .int .i64 0] h sl_22 ss_3 rfl (by kernel_rfl) rfl (by decide) (by decide)) <| ?_
 rintro _ w ⟨b6, rfl, h⟩
 refine st (bd [.int .u64 0, .slice (some ⟨b5, 0, none⟩) 1 1, .slice (some ⟨b6, 0, none⟩) 4 4] bd_50 rfl (by kernel_rfl)) <| cl (ca en_66 rfl) ((Record_any 0 (by decide) [[({ kind := 7 } : Ct.Op)]] [0, 0, 0, 0] (some ⟨b5, 0, none⟩) 1 (some ⟨b6, 0, none⟩) 4 (by decide) kinds7 (by decide) (toTh (b2 := b4) (h.fr (.c r0 (.c r0 (.c r0 .n)))))).mono ?_)
 rintro _ w ⟨p9, n9, c9, hn9, rfl, h⟩
 have hn3 : n9 = 3 := by rw [← hn9]; exact rec3
 obtain ⟨b9, rfl⟩ := h.fp Go.E.a0 (by omega)
 refine ⟨_, rfl, ?_⟩
 refine st (mv rfl) <| st (xr rfl rfl) <| st (xr rfl rfl) <| st (sg rfl) <| st (sg rfl) <| xe <| nx <| sq <| rg <| st (mv rfl) <| st (bi rfl rfl rfl) <| st (mv rfl) <| gT rfl rfl (by rw [ex5]; rfl) <| st (mv rfl) <| gT rfl rfl (by rw [ex5]; rfl) <| st (bi rfl rfl rfl) <| st (pT rfl (by rw [ex5]; rfl) rfl) <| st (mv rfl) <| gT rfl rfl (by rw [ex5]; rfl) <| st (mv rfl) <| gT rfl rfl (by rw [ex5]; rfl) <| st (bi rfl rfl rfl) <| st (pT rfl (by rw [ex5]; rfl) rfl) <| st (mv rfl) <| gT rfl rfl (by rw [ex4]; rfl) <| st (mv rfl) <| gT rfl rfl (by rw [ex4]; rfl) <| st (bi rfl rfl rfl) <| st (pT rfl (by rw [ex4]; rfl) rfl) <| st (mv rfl) <| gT rfl rfl (by rw [ex4]; rfl) <| st (mv rfl) <| gT rfl rfl (by rw [ex4]; rfl) <| st (bi rfl rfl rfl) <| st (pT rfl (by rw [ex4]; rfl) rfl) <| st (mv rfl) <| gT rfl rfl rfl <| st (mv rfl) <| gT rfl rfl rfl <| st (ln sl_69 rfl rfl) <| gT rfl rfl rfl <| st (bi rfl rfl rfl) <| st (pT rfl rfl rfl) <| st (mv rfl) <| gT rfl rfl (beq_iff_eq.2 (by omega)) <| st (mv rfl) <| gT rfl rfl (beq_iff_eq.2 (by omega)) <| st (ix (j := 0) sl_69 sz_75 rfl rfl (by omega)) <| gT rfl rfl (beq_iff_eq.2 (by omega)) <| st (fa fo_75_1 rfl) <| gT rfl rfl (beq_iff_eq.2 (by omega)) <| st (ldr (cs := [.int .i64 ((((recM [0, 0, 0, 0] (newM 0 [[({ kind := 7 } : Ct.Op)]], [], [])).2.2).getD 0 {}).acc.kind), .int .i64 ((((recM [0, 0, 0, 0] (newM 0 [[({ kind := 7 } : Ct.Op)]], [], [])).2.2).getD 0 {}).acc.cell), .int .i64 ((((recM [0, 0, 0, 0] (newM 0 [[({ kind := 7 } : Ct.Op)]], [], [])).2.2).getD 0 {}).acc.old), .int .i64 ((((recM [0, 0, 0, 0] (newM 0 [[({ kind := 7 } : Ct.Op)]], [], [])).2.2).getD 0 {}).acc.new)]) rfl (rows_sub ((h.ro Go.E.a0).x entC_len (by decide) (j := 0) (by omega) {}) 1 rfl) row_73) <| gT rfl rfl (beq_iff_eq.2 (by omega)) <| st (bd [.int .i64 1, .int .i64 3, .int .i64 0, .int .i64 0] bd_73 rfl (by kernel_rfl)) <| gT rfl rfl (beq_iff_eq.2 (by omega)) <| st (be_ eq_73 rfl rfl rfl rfl) <| st (pT rfl (beq_iff_eq.2 (by omega)) rfl) <| st (sg rfl) <| xe <| nx <| rt <| ?_
 refine rr (res1 Tryz.results37 rfl) <| ⟨rfl, h.drop.drop.drop.drop.drop.drop⟩
end Go.Proofs.YtjlgchdekhmnnaaGreatDoor
end
section
namespace Go.Proofs.YtjlgchdekhmnnaaGreatDoor
open Go.E
end Go.Proofs.YtjlgchdekhmnnaaGreatDoor
end
section
open Go Go.RowKit Go.E
namespace Go.Proofs.YtjlgchdekhmnnaaGreatDoor
theorem fz2 {B w : World} {L : List As} {A : As} {e2 : TypeId} {s2 n2 : Nat} {v2 : Value} {x2 : List Value} (h : SH B w (A :: osl e2 s2 v2 n2 x2 :: L)) : SH B w (A :: rsl s2 v2 n2 x2 :: L) :=
 ((h.fr (.c r1 (.c r0 .n))).fz.fr (.c r1 (.c r0 .n)))
theorem fi_T {q : Ct.Ent → Bool} {l : List Ct.Ent} {k : Nat} (h : k < l.length) (hq : q (l.getD k {}) = true) : (l.drop k).filter q = [l.getD k {}] ++ (l.drop (k + 1)).filter q := by
 rw [Ct.drop_get h {}, List.filter_cons_of_pos hq]; rfl
theorem fi_F {q : Ct.Ent → Bool} {l : List Ct.Ent} {k : Nat} (h : k < l.length) (hq : q (l.getD k {}) = false) : (l.drop k).filter q = (l.drop (k + 1)).filter q := by
 rw [Ct.drop_get h {}, List.filter_cons_of_neg (by rw [hq]; decide)]
theorem EqualN_any {B w : World} {L : List As} (la lb : List Int) (na nb : Nat) (ha : la.length = na) (hb : lb.length = nb) (pa pb : Option Addr) (ca cb : Nat) (hl : na ≤ 1000000) (h : SH B w (rsl 1 (.slice pa na ca) na (la.map (Value.int .i64)) :: rsl 1 (.slice pb nb cb) nb (lb.map (Value.int .i64)) :: L)) :
  Calls Tryz.prog 39 #[.slice pa na ca, .slice pb nb cb] w fun e w' => e = .returned (.bool (decide (la = lb))) ∧ SH B w' (rsl 1 (.slice pa na ca) na (la.map (Value.int .i64)) :: rsl 1 (.slice pb nb cb) nb (lb.map (Value.int .i64)) :: L) := by
 subst ha hb; exact EqualI_any la lb pa pb ca cb hl h
theorem SameN_any {B w : World} {L : List As} (la lb : List Ct.Ent) (na nb : Nat) (ha : la.length = na) (hb : lb.length = nb) (pa pb : Option Addr) (ca cb : Nat) (hl : na ≤ 1000000) (h : SH B w (rsl 7 (.slice pa na ca) na (la.flatMap entC) :: rsl 7 (.slice pb nb cb) nb (lb.flatMap entC) :: L)) :
  Calls Tryz.prog 41 #[.slice pa na ca, .slice pb nb cb] w fun e w' => e = .returned (.bool (decide (la = lb))) ∧ SH B w' (rsl 7 (.slice pa na ca) na (la.flatMap entC) :: rsl 7 (.slice pb nb cb) nb (lb.flatMap entC) :: L) := by
 subst ha hb; exact SameE_any la lb pa pb ca cb hl h
set_option maxRecDepth 100000 in
theorem TraceSelects_any {B w : World} {L : List As} (l : List Int) (p : Option Addr) (c : Nat) (x th : Int) (sml : Bool) (h : SH B w (rsl 1 (.slice p l.length c) l.length (l.map (Value.int .i64)) :: L)) :
  Calls Tryz.prog 7 #[.slice p l.length c, .int .i64 x, .int .i64 th, .bool sml] w fun e w' => e = .returned (.bool true) ∧ SH B w' (rsl 1 (.slice p l.length c) l.length (l.map (Value.int .i64)) :: L) := by
 refine bgn (args := [_, _, _, _]) Tryz.func7 rfl Tryz.ntmps7 rfl ?_
 refine sq <| rg <| st (sg rfl) <| xe <| nx <| sq <| rg <| st (mv rfl) <| sf (bu [.int .i64 0, .int .i64 1, .int .i64 0, .int .i64 2] h sl_56 ss_40 rfl (by kernel_rfl) rfl (by decide) (by decide)) <| ?_
 rintro _ w ⟨b1, rfl, h⟩
 refine cl (ca en_32 rfl) ((entries_any l p c [0, 1, 0, 2] (some ⟨b1, 0, none⟩) 4 (by decide) (fz2 (h.fr (.c r1 (.c r0 .n))))).mono ?_)
 rintro _ w ⟨es, pe, ce, _, rfl, hes, rfl, h⟩
 refine ⟨_, rfl, ?_⟩
 refine st (sg rfl) <| xe <| nx <| ?_
 refine sm (fun e w => ∃ x2 : Int, ∃ th2 : Int, Sub 72 e (.c 1 (.int .i64 x2) (.c 2 (.int .i64 th2) (.c 9 (.slice pe es.length ce) .n))) ∧ SH B w (rsl 7 (.slice pe es.length ce) es.length (es.flatMap entC) :: rsl 1 (.slice p l.length c) l.length (l.map (Value.int .i64)) :: rsl 1 (.slice (some ⟨b1, 0, none⟩) 4 4) 4 (([0, 1, 0, 2]).map (Value.int .i64)) :: L)) ?_ ?_
 ·refine sq <| rg <| st (mv rfl) <| xe <| nx <| ?_
  rcases Bool.eq_false_or_eq_true sml with hd2 | hd2
  ·refine ct rfl hd2 <| rg <| st (mv rfl) <| cl (ca en_38 rfl) ((Mod_any x 6 (by decide) (by decide)).mono ?_)
   rintro _ _ ⟨rfl, rfl⟩
   refine ⟨_, rfl, ?_⟩
   refine st (mv rfl) <| cl (ca en_38 rfl) ((Mod_any th 4 (by decide) (by decide)).mono ?_)
   rintro _ _ ⟨rfl, rfl⟩
   refine ⟨_, rfl, ?_⟩
   refine st (sg rfl) <| st (sg rfl) <| xe <| nx <| ?_
   exact ⟨Mod x 6, Mod th 4, ⟨rfl, rfl, rfl, trivial⟩, h⟩
  ·refine cf rfl hd2 <| sk <| nx <| ?_
   exact ⟨x, th, ⟨rfl, rfl, rfl, trivial⟩, h⟩
 rintro e w ⟨x2, th2, hE, h⟩
 refine C.sub hE ?_
 clear hE e
 refine sq <| rg <| st (sg rfl) <| xe <| nx <| sq <| rg <| st (sg rfl) <| xe <| nx <| sq <| sq <| rg <| st (mv rfl) <| st (ln sl_69 rfl rfl) <| st (mv rfl) <| xe <| nx <| bk <| ?_
 have h := SH.nil 3 1 h
 have h := SH.nil 75 7 h
 refine lp (α := Nat × List Int × Nat × Option Addr × Nat × List Ct.Ent × Nat × Option Addr × Nat) (fun x => (.c 1 (.int .i64 x2) (.c 2 (.int .i64 th2) (.c 9 (.slice pe es.length ce) (.c 10 (.slice x.2.2.2.1 x.2.2.1 x.2.2.2.2.1) (.c 11 (.slice x.2.2.2.2.2.2.2.1 x.2.2.2.2.2.2.1 x.2.2.2.2.2.2.2.2) (.c 22 (.slice pe es.length ce) (.c 23 (.int .i64 ((es.length : Nat) : Int)) (.c 24 (.int .i64 ((x.1 : Nat) : Int)) .n))))))))) (fun x w => SH B w (osl 3 1 (.slice x.2.2.2.1 x.2.2.1 x.2.2.2.2.1) x.2.2.1 (x.2.1.map (Value.int .i64)) :: osl 75 7 (.slice x.2.2.2.2.2.2.2.1 x.2.2.2.2.2.2.1 x.2.2.2.2.2.2.2.2) x.2.2.2.2.2.2.1 (x.2.2.2.2.2.1.flatMap entC) :: rsl 7 (.slice pe es.length ce) es.length (es.flatMap entC) :: rsl 1 (.slice p l.length c) l.length (l.map (Value.int .i64)) :: L) ∧ (x.1 ≤ es.length) ∧ (x.2.1.length = x.2.2.1) ∧ (x.2.2.1 ≤ x.1) ∧ (x.2.2.2.2.2.1.length = x.2.2.2.2.2.2.1) ∧ (x.2.2.2.2.2.2.1 ≤ x.1) ∧ (Ct.whereF (Ct.isWrite x2) es 0 = x.2.1 ++ Ct.whereF (Ct.isWrite x2) (es.drop x.1) x.1) ∧ (es.filter (Ct.isThread th2) = x.2.2.2.2.2.1 ++ (es.drop x.1).filter (Ct.isThread th2))) (fun x => es.length - x.1) (0, [], 0, none, 0, [], 0, none, 0) ⟨rfl, rfl, rfl, rfl, rfl, rfl, rfl, rfl, trivial⟩ ⟨((h.fr (.c r4 .n)).drop.fr (.c r1 (.c r0 (.c r0 (.c r0 .n))))), Nat.zero_le _, rfl, Nat.le_refl _, rfl, Nat.le_refl _, rfl, rfl⟩ ?_
 rintro ⟨k, ws, nw, pw, cw, os, no, po, co⟩ w ⟨h, hk, hw, hwk, ho, hok, hW, hO⟩
 dsimp only at *
 refine sq <| rg <| st (bi rfl rfl rfl) <| xe <| nx <| sq <| ?_
 rcases Bool.eq_false_or_eq_true (decide ((((k : Nat) : Int) : Int) < ((es.length : Nat) : Int))) with hd3 | hd3
 ·have hg4 := of_decide_eq_true hd3
  refine ct rfl hd3 <| sk <| nx <| sq <| bk <| sq <| rg <| st (mv rfl) <| ?_
  obtain ⟨b5, o6, rfl⟩ := h.fq Go.E.a2 (by omega)
  refine st (ix (j := k) sl_69 sz_75 rfl rfl (by omega)) <| st (ldr rfl ((h.rr Go.E.a2).x entC_len (by decide) (by omega) {}) row_75) <| sf (al h zc_75) <| ?_
  rintro _ w ⟨b7, rfl, h⟩
  refine st (sg rfl) <| sf (so h rfl rfl rfl sz_75 rfl (.r (.r (.r (.r (.r (.r (.r .d))))))) u0) <| ?_
  rintro _ w h
  refine xe <| nx <| sq <| sq <| rg <| st (fa fo_75_1 rfl) <| st (fa fo_73_0 rfl) <| st (ld one_3 rfl (h.c Go.E.a0 rfl)) <| st (bi rfl rfl rfl) <| st (mv rfl) <| ?_
  rcases Bool.eq_false_or_eq_true (((es.getD k {}).acc.kind : Int) == 2) with hd8 | hd8
  ·have hg9 := eq_of_beq hd8
   refine gT rfl rfl hd8 <| st (fa fo_75_3 rfl) <| gT rfl rfl hd8 <| st (ld one_4 rfl (h.c Go.E.a0 rfl)) <| st (pT rfl hd8 rfl) <| st (mv rfl) <| ?_
   rcases Bool.eq_false_or_eq_true ((es.getD k {}).swapped) with hd10 | hd10
   ·refine gT rfl rfl hd10 <| st (fa fo_75_1 rfl) <| gT rfl rfl hd10 <| st (fa fo_73_1 rfl) <| gT rfl rfl hd10 <| st (ld one_41 rfl (h.c Go.E.a0 rfl)) <| gT rfl rfl hd10 <| st (mv rfl) <| gT rfl rfl hd10 <| st (bi rfl rfl rfl) <| st (pT rfl hd10 rfl) <| xe <| nx <| ?_
    rcases Bool.eq_false_or_eq_true (((es.getD k {}).acc.cell : Int) == x2) with hd11 | hd11
    ·have hg12 := eq_of_beq hd11
     refine ct rfl hd11 <| rg <| st (mv rfl) <| st (mv rfl) <| sf (bu [.int .i64 ((k : Nat) : Int)] h sl_22 ss_3 rfl (by kernel_rfl) rfl (by decide) (by decide)) <| ?_
     rintro _ w ⟨b13, rfl, h⟩
     refine sf (ap h sl_22 rfl ss_3 rfl (by decide) rfl rfl (fun _ => u2) (h.ro Go.E.a0) (by simp [Value.oneCell']) rfl (join_ints _ _) (by unfold maxLen; omega) (by omega)) <| ?_
     rintro _ w ⟨p14, c15, rfl, h⟩
     refine st (sg rfl) <| xe <| nx <| sq <| rg <| st (fa fo_75_0 rfl) <| st (ld one_3 rfl (h.c Go.E.a1 rfl)) <| st (mv rfl) <| st (bi rfl rfl rfl) <| xe <| nx <| ?_
     rcases Bool.eq_false_or_eq_true (((es.getD k {}).thread : Int) == th2) with hd16 | hd16
     ·have hg17 := eq_of_beq hd16
      refine ct rfl hd16 <| rg <| st (mv rfl) <| st (ldr rfl (rows_all (h.b Go.E.a1)) row_75) <| sf (bu (entC (es.getD k {})) h sl_69 ss_75 rfl (by kernel_rfl) rfl (by decide) (by decide)) <| ?_
      rintro _ w ⟨b18, rfl, h⟩
      refine sf (ap h sl_69 rfl ss_75 rfl (by decide) rfl rfl (fun _ => u4) (h.ro Go.E.a0) (fun u hu => List.all_eq_true.1 (entC_one _) u hu) rfl (join_rows _ _) (by unfold maxLen; omega) (by omega)) <| ?_
      rintro _ w ⟨p19, c20, rfl, h⟩
      refine st (sg rfl) <| xe <| bn <| nx <| rg <| st (bw rfl rfl (wadd (c := ((k + 1 : Nat) : Int)) (by omega) (by omega) (by omega))) <| st (mv rfl) <| xe <| nx <| ?_
      have hq1 : Ct.isWrite x2 (es.getD k {}) = true := by unfold Ct.isWrite; simp only [hd8, hd10, hd11, Bool.and_false, Bool.false_and, Bool.and_true, Bool.true_and, Bool.and_self]
      have hq2 : Ct.isThread th2 (es.getD k {}) = true := by unfold Ct.isThread; exact hd16
      exact ⟨(k + 1, ws ++ [((k : Nat) : Int)], nw + 1, p14, c15, os ++ [es.getD k {}], no + 1, p19, c20), ⟨rfl, rfl, rfl, rfl, rfl, rfl, rfl, rfl, trivial⟩, ⟨h.drop.drop.drop, by (try dsimp only); omega, by simp [hw], by (try dsimp only); omega, by simp [ho], by (try dsimp only); omega, by rw [hW, wh_T (by omega) hq1, List.append_assoc], by rw [hO, fi_T (by omega) hq2, List.append_assoc]⟩, by (try dsimp only); omega⟩
     ·have hg21 := ne_of_beq_false hd16
      refine cf rfl hd16 <| sk <| bn <| nx <| rg <| st (bw rfl rfl (wadd (c := ((k + 1 : Nat) : Int)) (by omega) (by omega) (by omega))) <| st (mv rfl) <| xe <| nx <| ?_
      have hq1 : Ct.isWrite x2 (es.getD k {}) = true := by unfold Ct.isWrite; simp only [hd8, hd10, hd11, Bool.and_false, Bool.false_and, Bool.and_true, Bool.true_and, Bool.and_self]
      have hq2 : Ct.isThread th2 (es.getD k {}) = false := by unfold Ct.isThread; exact hd16
      exact ⟨(k + 1, ws ++ [((k : Nat) : Int)], nw + 1, p14, c15, os, no, po, co), ⟨rfl, rfl, rfl, rfl, rfl, rfl, rfl, rfl, trivial⟩, ⟨h.drop.drop, by (try dsimp only); omega, by simp [hw], by (try dsimp only); omega, ho, by (try dsimp only); omega, by rw [hW, wh_T (by omega) hq1, List.append_assoc], by rw [hO, fi_F (by omega) hq2]⟩, by (try dsimp only); omega⟩
    ·have hg22 := ne_of_beq_false hd11
     refine cf rfl hd11 <| sk <| nx <| sq <| rg <| st (fa fo_75_0 rfl) <| st (ld one_3 rfl (h.c Go.E.a0 rfl)) <| st (mv rfl) <| st (bi rfl rfl rfl) <| xe <| nx <| ?_
     rcases Bool.eq_false_or_eq_true (((es.getD k {}).thread : Int) == th2) with hd23 | hd23
     ·have hg24 := eq_of_beq hd23
      refine ct rfl hd23 <| rg <| st (mv rfl) <| st (ldr rfl (rows_all (h.b Go.E.a0)) row_75) <| sf (bu (entC (es.getD k {})) h sl_69 ss_75 rfl (by kernel_rfl) rfl (by decide) (by decide)) <| ?_
      rintro _ w ⟨b25, rfl, h⟩
      refine sf (ap h sl_69 rfl ss_75 rfl (by decide) rfl rfl (fun _ => u3) (h.ro Go.E.a0) (fun u hu => List.all_eq_true.1 (entC_one _) u hu) rfl (join_rows _ _) (by unfold maxLen; omega) (by omega)) <| ?_
      rintro _ w ⟨p26, c27, rfl, h⟩
      refine st (sg rfl) <| xe <| bn <| nx <| rg <| st (bw rfl rfl (wadd (c := ((k + 1 : Nat) : Int)) (by omega) (by omega) (by omega))) <| st (mv rfl) <| xe <| nx <| ?_
      have hq1 : Ct.isWrite x2 (es.getD k {}) = false := by unfold Ct.isWrite; simp only [hd8, hd10, hd11, Bool.and_false, Bool.false_and, Bool.and_true, Bool.true_and, Bool.and_self]
      have hq2 : Ct.isThread th2 (es.getD k {}) = true := by unfold Ct.isThread; exact hd23
      exact ⟨(k + 1, ws, nw, pw, cw, os ++ [es.getD k {}], no + 1, p26, c27), ⟨rfl, rfl, rfl, rfl, rfl, rfl, rfl, rfl, trivial⟩, ⟨h.drop.drop, by (try dsimp only); omega, hw, by (try dsimp only); omega, by simp [ho], by (try dsimp only); omega, by rw [hW, wh_F (by omega) hq1], by rw [hO, fi_T (by omega) hq2, List.append_assoc]⟩, by (try dsimp only); omega⟩
     ·have hg28 := ne_of_beq_false hd23
      refine cf rfl hd23 <| sk <| bn <| nx <| rg <| st (bw rfl rfl (wadd (c := ((k + 1 : Nat) : Int)) (by omega) (by omega) (by omega))) <| st (mv rfl) <| xe <| nx <| ?_
      have hq1 : Ct.isWrite x2 (es.getD k {}) = false := by unfold Ct.isWrite; simp only [hd8, hd10, hd11, Bool.and_false, Bool.false_and, Bool.and_true, Bool.true_and, Bool.and_self]
      have hq2 : Ct.isThread th2 (es.getD k {}) = false := by unfold Ct.isThread; exact hd23
      exact ⟨(k + 1, ws, nw, pw, cw, os, no, po, co), ⟨rfl, rfl, rfl, rfl, rfl, rfl, rfl, rfl, trivial⟩, ⟨h.drop, by (try dsimp only); omega, hw, by (try dsimp only); omega, ho, by (try dsimp only); omega, by rw [hW, wh_F (by omega) hq1], by rw [hO, fi_F (by omega) hq2]⟩, by (try dsimp only); omega⟩
   ·refine gF rfl rfl hd10 <| gF rfl rfl hd10 <| gF rfl rfl hd10 <| gF rfl rfl hd10 <| gF rfl rfl hd10 <| st (pF rfl hd10 rfl) <| xe <| nx <| cF rfl <| sk <| nx <| sq <| rg <| st (fa fo_75_0 rfl) <| st (ld one_3 rfl (h.c Go.E.a0 rfl)) <| st (mv rfl) <| st (bi rfl rfl rfl) <| xe <| nx <| ?_
    rcases Bool.eq_false_or_eq_true (((es.getD k {}).thread : Int) == th2) with hd29 | hd29
    ·have hg30 := eq_of_beq hd29
     refine ct rfl hd29 <| rg <| st (mv rfl) <| st (ldr rfl (rows_all (h.b Go.E.a0)) row_75) <| sf (bu (entC (es.getD k {})) h sl_69 ss_75 rfl (by kernel_rfl) rfl (by decide) (by decide)) <| ?_
     rintro _ w ⟨b31, rfl, h⟩
     refine sf (ap h sl_69 rfl ss_75 rfl (by decide) rfl rfl (fun _ => u3) (h.ro Go.E.a0) (fun u hu => List.all_eq_true.1 (entC_one _) u hu) rfl (join_rows _ _) (by unfold maxLen; omega) (by omega)) <| ?_
     rintro _ w ⟨p32, c33, rfl, h⟩
     refine st (sg rfl) <| xe <| bn <| nx <| rg <| st (bw rfl rfl (wadd (c := ((k + 1 : Nat) : Int)) (by omega) (by omega) (by omega))) <| st (mv rfl) <| xe <| nx <| ?_
     have hq1 : Ct.isWrite x2 (es.getD k {}) = false := by unfold Ct.isWrite; simp only [hd8, hd10, Bool.and_false, Bool.false_and, Bool.and_true, Bool.true_and, Bool.and_self]
     have hq2 : Ct.isThread th2 (es.getD k {}) = true := by unfold Ct.isThread; exact hd29
     exact ⟨(k + 1, ws, nw, pw, cw, os ++ [es.getD k {}], no + 1, p32, c33), ⟨rfl, rfl, rfl, rfl, rfl, rfl, rfl, rfl, trivial⟩, ⟨h.drop.drop, by (try dsimp only); omega, hw, by (try dsimp only); omega, by simp [ho], by (try dsimp only); omega, by rw [hW, wh_F (by omega) hq1], by rw [hO, fi_T (by omega) hq2, List.append_assoc]⟩, by (try dsimp only); omega⟩
    ·have hg34 := ne_of_beq_false hd29
     refine cf rfl hd29 <| sk <| bn <| nx <| rg <| st (bw rfl rfl (wadd (c := ((k + 1 : Nat) : Int)) (by omega) (by omega) (by omega))) <| st (mv rfl) <| xe <| nx <| ?_
     have hq1 : Ct.isWrite x2 (es.getD k {}) = false := by unfold Ct.isWrite; simp only [hd8, hd10, Bool.and_false, Bool.false_and, Bool.and_true, Bool.true_and, Bool.and_self]
     have hq2 : Ct.isThread th2 (es.getD k {}) = false := by unfold Ct.isThread; exact hd29
     exact ⟨(k + 1, ws, nw, pw, cw, os, no, po, co), ⟨rfl, rfl, rfl, rfl, rfl, rfl, rfl, rfl, trivial⟩, ⟨h.drop, by (try dsimp only); omega, hw, by (try dsimp only); omega, ho, by (try dsimp only); omega, by rw [hW, wh_F (by omega) hq1], by rw [hO, fi_F (by omega) hq2]⟩, by (try dsimp only); omega⟩
  ·have hg35 := ne_of_beq_false hd8
   refine gF rfl rfl hd8 <| gF rfl rfl hd8 <| st (pF rfl hd8 rfl) <| st (mv rfl) <| gF rfl rfl rfl <| gF rfl rfl rfl <| gF rfl rfl rfl <| gF rfl rfl rfl <| gF rfl rfl rfl <| st (pF rfl rfl rfl) <| xe <| nx <| cF rfl <| sk <| nx <| sq <| rg <| st (fa fo_75_0 rfl) <| st (ld one_3 rfl (h.c Go.E.a0 rfl)) <| st (mv rfl) <| st (bi rfl rfl rfl) <| xe <| nx <| ?_
   rcases Bool.eq_false_or_eq_true (((es.getD k {}).thread : Int) == th2) with hd36 | hd36
   ·have hg37 := eq_of_beq hd36
    refine ct rfl hd36 <| rg <| st (mv rfl) <| st (ldr rfl (rows_all (h.b Go.E.a0)) row_75) <| sf (bu (entC (es.getD k {})) h sl_69 ss_75 rfl (by kernel_rfl) rfl (by decide) (by decide)) <| ?_
    rintro _ w ⟨b38, rfl, h⟩
    refine sf (ap h sl_69 rfl ss_75 rfl (by decide) rfl rfl (fun _ => u3) (h.ro Go.E.a0) (fun u hu => List.all_eq_true.1 (entC_one _) u hu) rfl (join_rows _ _) (by unfold maxLen; omega) (by omega)) <| ?_
    rintro _ w ⟨p39, c40, rfl, h⟩
    refine st (sg rfl) <| xe <| bn <| nx <| rg <| st (bw rfl rfl (wadd (c := ((k + 1 : Nat) : Int)) (by omega) (by omega) (by omega))) <| st (mv rfl) <| xe <| nx <| ?_
    have hq1 : Ct.isWrite x2 (es.getD k {}) = false := by unfold Ct.isWrite; simp only [hd8, Bool.and_false, Bool.false_and, Bool.and_true, Bool.true_and, Bool.and_self]
    have hq2 : Ct.isThread th2 (es.getD k {}) = true := by unfold Ct.isThread; exact hd36
    exact ⟨(k + 1, ws, nw, pw, cw, os ++ [es.getD k {}], no + 1, p39, c40), ⟨rfl, rfl, rfl, rfl, rfl, rfl, rfl, rfl, trivial⟩, ⟨h.drop.drop, by (try dsimp only); omega, hw, by (try dsimp only); omega, by simp [ho], by (try dsimp only); omega, by rw [hW, wh_F (by omega) hq1], by rw [hO, fi_T (by omega) hq2, List.append_assoc]⟩, by (try dsimp only); omega⟩
   ·have hg41 := ne_of_beq_false hd36
    refine cf rfl hd36 <| sk <| bn <| nx <| rg <| st (bw rfl rfl (wadd (c := ((k + 1 : Nat) : Int)) (by omega) (by omega) (by omega))) <| st (mv rfl) <| xe <| nx <| ?_
    have hq1 : Ct.isWrite x2 (es.getD k {}) = false := by unfold Ct.isWrite; simp only [hd8, Bool.and_false, Bool.false_and, Bool.and_true, Bool.true_and, Bool.and_self]
    have hq2 : Ct.isThread th2 (es.getD k {}) = false := by unfold Ct.isThread; exact hd36
    exact ⟨(k + 1, ws, nw, pw, cw, os, no, po, co), ⟨rfl, rfl, rfl, rfl, rfl, rfl, rfl, rfl, trivial⟩, ⟨h.drop, by (try dsimp only); omega, hw, by (try dsimp only); omega, ho, by (try dsimp only); omega, by rw [hW, wh_F (by omega) hq1], by rw [hO, fi_F (by omega) hq2]⟩, by (try dsimp only); omega⟩
 ·have hg42 := of_decide_eq_false hd3
  refine cf rfl hd3 <| xt <| tx <| tx <| be <| nx <| sq <| rg <| cl (ca en_37 rfl) ((awake_any (h.fr .n)).mono ?_)
  rintro _ w ⟨rfl, h⟩
  have hkk : k = es.length := by omega
  have hWE : Ct.whereF (Ct.isWrite x2) es 0 = ws := by rw [hW, hkk, List.drop_length]; simp [Ct.whereF]
  have hOE : es.filter (Ct.isThread th2) = os := by rw [hO, hkk, List.drop_length]; simp
  refine ⟨_, rfl, ?_⟩
  refine st (mv rfl) <| gT rfl rfl rfl <| st (mv rfl) <| gT rfl rfl rfl <| st (mv rfl) <| gT rfl rfl rfl <| cl (ca en_40 rfl) ((Writes_any es pe ce (by omega) x2 (h.fr (.c r2 .n))).mono ?_)
  rintro _ w ⟨p7, c7, n7, hn7, rfl, h⟩
  refine ⟨_, rfl, ?_⟩
  refine gT rfl rfl rfl <| st (mv rfl) <| gT rfl rfl rfl <| cl (ca en_39 rfl) ((EqualN_any (Ct.whereF (Ct.isWrite x2) es 0) ws n7 nw hn7 hw p7 pw c7 cw (by rw [← hn7, hWE, hw]; omega) (fz2 (h.fr (.c r0 (.c r1 .n))))).mono ?_)
  rintro _ w ⟨rfl, h⟩
  refine ⟨_, rfl, ?_⟩
  refine st (pT rfl rfl rfl) <| st (mv rfl) <| gT rfl rfl (decide_eq_true hWE) <| st (mv rfl) <| gT rfl rfl (decide_eq_true hWE) <| st (mv rfl) <| gT rfl rfl (decide_eq_true hWE) <| cl (ca en_42 rfl) ((Thread_any es pe ce (by omega) th2 (h.fr (.c r2 .n))).mono ?_)
  rintro _ w ⟨p8, c8, n8, hn8, rfl, h⟩
  refine ⟨_, rfl, ?_⟩
  refine gT rfl rfl (decide_eq_true hWE) <| st (mv rfl) <| gT rfl rfl (decide_eq_true hWE) <| cl (ca en_41 rfl) ((SameN_any (es.filter (Ct.isThread th2)) os n8 no hn8 ho p8 po c8 co (by rw [← hn8, hOE, ho]; omega) (fz2 (h.fr (.c r0 (.c r3 .n))))).mono ?_)
  rintro _ w ⟨rfl, h⟩
  refine ⟨_, rfl, ?_⟩
  refine st (pT rfl (decide_eq_true hWE) rfl) <| st (sg rfl) <| xe <| nx <| rt <| ?_
  refine rr (res1 Tryz.results7 rfl) <| ?_
  rw [decide_eq_true hOE]; exact ⟨rfl, h.drop.drop.drop.drop.drop⟩
end Go.Proofs.YtjlgchdekhmnnaaGreatDoor
end
section
namespace Go.Proofs.YtjlgchdekhmnnaaGreatDoor
open Go.E
end Go.Proofs.YtjlgchdekhmnnaaGreatDoor
end
section
open Go Go.RowKit Go.E
namespace Go.Proofs.YtjlgchdekhmnnaaGreatDoor
end Go.Proofs.YtjlgchdekhmnnaaGreatDoor
end
