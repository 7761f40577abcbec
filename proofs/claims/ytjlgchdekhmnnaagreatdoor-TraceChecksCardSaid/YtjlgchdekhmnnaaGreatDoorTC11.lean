/- Parts of a proof: Aw4, Typ, Ls4, Tyo, Lc4, Sa. -/
import Derived.Test.YtjlgchdekhmnnaaGreatDoorTC10
import Derived.Test.YtjlgchdekhmnnaaGreatDoorTC04
import Derived.Test.YtjlgchdekhmnnaaGreatDoorTC06
import Derived.Test.YtjlgchdekhmnnaaGreatDoorTC07
import Derived.Test.YtjlgchdekhmnnaaGreatDoorTC08
import Derived.Test.YtjlgchdekhmnnaaGreatDoorTC09
import Derived.ChangeSlices
import Derived.ChangeArms
import Derived.Deep.Slices
import Derived.Lib.SmallJoins
import Derived.ProofKit
set_option linter.unusedVariables false
set_option linter.unusedSimpArgs false
section
open Go Go.RowKit Go.E
namespace Go.Proofs.YtjlgchdekhmnnaaGreatDoor
theorem ex5 : Ct.executeF [5] [({ acc := { kind := 1, cell := 1 }, loaded := 5 } : Ct.Ent)] 0 = (1, 0, [5]) := by decide
theorem ex4 : Ct.executeF [4] [({ acc := { kind := 1, cell := 1 }, loaded := 5 } : Ct.Ent)] 0 = (0, 8, [4]) := by decide
theorem rec3 : (recM [0, 0, 0, 0] (newM 0 [[({ kind := 7 } : Ct.Op)]], [], [])).2.2.length = 3 := by decide
theorem kinds7 : KindsOk [[({ kind := 7 } : Ct.Op)]] := fun os h o ho => by
 obtain rfl : os = _ := by simpa using h
 obtain rfl : o = _ := by simpa using ho
 exact ⟨.inr (.inr ⟨rfl, by decide⟩), .inr rfl⟩
theorem fz12 {B w : World} {L : List As} {e1 e2 : TypeId} {s1 s2 n1 n2 : Nat} {v1 v2 : Value} {x1 x2 : List Value} (h : SH B w (osl e1 s1 v1 n1 x1 :: osl e2 s2 v2 n2 x2 :: L)) : SH B w (rsl s1 v1 n1 x1 :: rsl s2 v2 n2 x2 :: L) :=
 ((h.fz.fr (.c r1 (.c r0 .n))).fz.fr (.c r1 (.c r0 .n)))
theorem toTh {B w : World} {L : List As} {e1 e2 e3 : TypeId} {v1 v2 : Value} {n1 b2 : Nat} {x1 : List Value} {o : Ct.Op} (h : SH B w (osl e1 1 v1 n1 x1 :: osl e2 1 v2 1 [.slice (some ⟨b2, 0, none⟩) 1 1] :: osl e3 5 (.slice (some ⟨b2, 0, none⟩) 1 1) 1 (opC o) :: L)) : SH B w (rsl 1 v1 n1 x1 :: thA v2 [[o]] :: L) := by
 have h := (h.fr (.c r1 (.c r1 (.c r0 .n))))
 have h : SH B w (osl e2 1 v2 1 [.slice (some ⟨b2, 0, none⟩) 1 1] :: osl e3 5 (.slice (some ⟨b2, 0, none⟩) 1 1) 1 (opC o) :: osl e1 1 v1 n1 x1 :: L) := h
 have h := fz12 h
 have h := SH.is (l := [_, _]) h
 have h : SH B w (thA v2 [[o]] :: osl e1 1 v1 n1 x1 :: L) := h.wk fun O R hA => by
  obtain ⟨Os, Rs, g1, g2, g3, g4⟩ := hA
  have k0 := g1 0 _ rfl
  have k1 := g1 1 _ rfl
  refine ⟨fun _ => False, R, ⟨fun _ h => h, fun k hr => ?_, [_], rfl, k0.1, fun k hk => (g4 k).2 ⟨0, by simp, (k0.2.2 k).2 hk⟩, fun i ov os q1 q2 => ?_⟩, fun _ h => h.elim, fun k hk => .inr hk⟩
  ·obtain ⟨i, hi, hr⟩ := (g4 k).1 hr
   have : i = 0 ∨ i = 1 := by simp at hi; omega
   rcases this with rfl | rfl
   ·exact As.dom _ k0 (.inr hr)
   ·exact As.dom _ k1 (.inr hr)
  ·cases i with
   | zero =>
    simp only [List.getElem?_cons_zero, Option.some.injEq] at q1 q2
    subst q1 q2
    exact ⟨by simpa using k1.1, fun k hk => (g4 k).2 ⟨1, by simp, (k1.2.2 k).2 hk⟩⟩
   | succ i => simp at q1
 exact ((h.fr (.c r1 (.c r0 .n)))).fz
set_option maxRecDepth 100000 in
theorem awake_any {B w : World} {L : List As}  (h : SH B w (L)) :
  Calls Tryz.prog 37 #[] w fun e w' => e = .returned (.bool true) ∧ SH B w' L := by
 refine bgn (args := []) Tryz.func37 rfl Tryz.ntmps37 rfl ?_
 refine sq <| rg <| st (sg rfl) <| xe <| nx <| sq <| rg <| st (bd [.int .i64 1, .int .i64 1, .int .i64 0, .int .i64 0] bd_73 rfl (by kernel_rfl)) <| st (bd [.int .i64 0, .int .i64 1, .int .i64 1, .int .i64 0, .int .i64 0, .int .i64 5, .bool false] bd_75 rfl (by kernel_rfl)) <| sf (bu [.int .i64 0, .int .i64 1, .int .i64 1, .int .i64 0, .int .i64 0, .int .i64 5, .bool false] h sl_69 ss_75 rfl (by kernel_rfl) rfl (by decide) (by decide)) <| ?_
 rintro _ w ⟨b1, rfl, h⟩
 refine st (sg rfl) <| xe <| nx <| sq <| rg <| sf (bu [.int .i64 5] h sl_56 ss_40 rfl (by kernel_rfl) rfl (by decide) (by decide)) <| ?_
 rintro _ w ⟨b2, rfl, h⟩
 refine st (mv rfl) <| cl (ca en_33 rfl) ((Check_any ([5] : List Int) (some ⟨b2, 0, none⟩) 1 (by decide) [({ acc := { kind := 1, cell := 1 }, loaded := 5 } : Ct.Ent)] (some ⟨b1, 0, none⟩) 1 (by decide) (fz12 (h.fr (.c r0 (.c r0 .n))))).mono ?_)
 rintro _ w ⟨rfl, h⟩
 refine ⟨_, rfl, ?_⟩
 refine st (mv rfl) <| st (xr rfl rfl) <| st (xr rfl rfl) <| st (sg rfl) <| st (sg rfl) <| xe <| nx <| sq <| rg <| sf (bu [.int .i64 4] h sl_56 ss_40 rfl (by kernel_rfl) rfl (by decide) (by decide)) <| ?_
 rintro _ w ⟨b3, rfl, h⟩
 refine st (mv rfl) <| cl (ca en_33 rfl) ((Check_any ([4] : List Int) (some ⟨b3, 0, none⟩) 1 (by decide) [({ acc := { kind := 1, cell := 1 }, loaded := 5 } : Ct.Ent)] (some ⟨b1, 0, none⟩) 1 (by decide) (SH.fz (h.fr (.c r0 (.c r1 .n))))).mono ?_)
 rintro _ w ⟨rfl, h⟩
 refine ⟨_, rfl, ?_⟩
 refine st (mv rfl) <| st (xr rfl rfl) <| st (xr rfl rfl) <| st (sg rfl) <| st (sg rfl) <| xe <| nx <| sq <| rg <| st (bd [.int .i64 7, .int .i64 0, .string .empty, .int .u64 0, .int .u64 0] bd_35 rfl (by kernel_rfl)) <| sf (bu [.int .i64 7, .int .i64 0, .string .empty, .int .u64 0, .int .u64 0] h sl_119 ss_35 rfl (by kernel_rfl) rfl (by decide) (by decide)) <| ?_
 rintro _ w ⟨b4, rfl, h⟩
 refine sf (bu [.slice (some ⟨b4, 0, none⟩) 1 1] h sl_48 ss_119 rfl (by kernel_rfl) rfl (by decide) (by decide)) <| ?_
 rintro _ w ⟨b5, rfl, h⟩
 refine sf (bu [.int .i64 0, .int .i64 0, .int .i64 0, .int .i64 0] h sl_22 ss_3 rfl (by kernel_rfl) rfl (by decide) (by decide)) <| ?_
 rintro _ w ⟨b6, rfl, h⟩
 refine st (bd [.int .u64 0, .slice (some ⟨b5, 0, none⟩) 1 1, .slice (some ⟨b6, 0, none⟩) 4 4] bd_50 rfl (by kernel_rfl)) <| cl (ca en_66 rfl) ((Record_any 0 (by decide) [[({ kind := 7 } : Ct.Op)]] [0, 0, 0, 0] (some ⟨b5, 0, none⟩) 1 (some ⟨b6, 0, none⟩) 4 (by decide) kinds7 (by decide) (toTh (b2 := b4) (h.fr (.c r0 (.c r0 (.c r0 .n)))))).mono ?_)
 rintro _ w ⟨p9, n9, c9, hn9, rfl, h⟩
 have hn3 : n9 = 3 := by rw [← hn9]; exact rec3
 obtain ⟨b9, rfl⟩ := h.fp Go.E.a0 (by omega)
 refine ⟨_, rfl, ?_⟩
 refine st (mv rfl) <| st (xr rfl rfl) <| st (xr rfl rfl) <| st (sg rfl) <| st (sg rfl) <| xe <| nx <| sq <| rg <| st (mv rfl) <| st (bi rfl rfl rfl) <| st (mv rfl) <| gT rfl rfl (by rw [ex5]; rfl) <| st (mv rfl) <| gT rfl rfl (by rw [ex5]; rfl) <| st (bi rfl rfl rfl) <| st (pT rfl (by rw [ex5]; rfl) rfl) <| st (mv rfl) <| gT rfl rfl (by rw [ex5]; rfl) <| st (mv rfl) <| gT rfl rfl (by rw [ex5]; rfl) <| st (bi rfl rfl rfl) <| st (pT rfl (by rw [ex5]; rfl) rfl) <| st (mv rfl) <| gT rfl rfl (by rw [ex4]; rfl) <| st (mv rfl) <| gT rfl rfl (by rw [ex4]; rfl) <| st (bi rfl rfl rfl) <| st (pT rfl (by rw [ex4]; rfl) rfl) <| st (mv rfl) <| gT rfl rfl (by rw [ex4]; rfl) <| st (mv rfl) <| gT rfl rfl (by rw [ex4]; rfl) <| st (bi rfl rfl rfl) <| st (pT rfl (by rw [ex4]; rfl) rfl) <| st (mv rfl) <| gT rfl rfl rfl <| st (mv rfl) <| gT rfl rfl rfl <| st (ln sl_69 rfl rfl) <| gT rfl rfl rfl <| st (bi rfl rfl rfl) <| st (pT rfl rfl rfl) <| st (mv rfl) <| gT rfl rfl (beq_iff_eq.2 (by omega)) <| st (mv rfl) <| gT rfl rfl (beq_iff_eq.2 (by omega)) <| st (ix (j := 0) sl_69 sz_75 rfl rfl (by omega)) <| gT rfl rfl (beq_iff_eq.2 (by omega)) <| st (fa fo_75_1 rfl) <| gT rfl rfl (beq_iff_eq.2 (by omega)) <| st (ldr (cs := [.int .i64 ((((recM [0, 0, 0, 0] (newM 0 [[({ kind := 7 } : Ct.Op)]], [], [])).2.2).getD 0 {}).acc.kind), .int .i64 ((((recM [0, 0, 0, 0] (newM 0 [[({ kind := 7 } : Ct.Op)]], [], [])).2.2).getD 0 {}).acc.cell), .int .i64 ((((recM [0, 0, 0, 0] (newM 0 [[({ kind := 7 } : Ct.Op)]], [], [])).2.2).getD 0 {}).acc.old), .int .i64 ((((recM [0, 0, 0, 0] (newM 0 [[({ kind := 7 } : Ct.Op)]], [], [])).2.2).getD 0 {}).acc.new)]) rfl (rows_sub ((h.ro Go.E.a0).x entC_len (by decide) (j := 0) (by omega) {}) 1 rfl) row_73) <| gT rfl rfl (beq_iff_eq.2 (by omega)) <| st (bd [.int .i64 1, .int .i64 3, .int .i64 0, .int .i64 0] bd_73 rfl (by kernel_rfl)) <| gT rfl rfl (beq_iff_eq.2 (by omega)) <| st (be_ eq_73 rfl rfl rfl rfl) <| st (pT rfl (beq_iff_eq.2 (by omega)) rfl) <| st (sg rfl) <| xe <| nx <| rt <| ?_
 refine rr (res1 Tryz.results37 rfl) <| ⟨rfl, h.drop.drop.drop.drop.drop.drop⟩
end Go.Proofs.YtjlgchdekhmnnaaGreatDoor
end
section
namespace Go.Proofs.YtjlgchdekhmnnaaGreatDoor
open Go.E
end Go.Proofs.YtjlgchdekhmnnaaGreatDoor
end
section
open Go Go.RowKit Go.E
namespace Go.Proofs.YtjlgchdekhmnnaaGreatDoor
theorem fz2 {B w : World} {L : List As} {A : As} {e2 : TypeId} {s2 n2 : Nat} {v2 : Value} {x2 : List Value} (h : SH B w (A :: osl e2 s2 v2 n2 x2 :: L)) : SH B w (A :: rsl s2 v2 n2 x2 :: L) :=
 ((h.fr (.c r1 (.c r0 .n))).fz.fr (.c r1 (.c r0 .n)))
theorem RefsN_any {B w : World} {L : List As} (la lb : List Int) (na nb : Nat) (ha : la.length = na) (hb : lb.length = nb) (pa pb : Option Addr) (ca cb : Nat) (hl : na ≤ 1000000) (h : SH B w (rsl 1 (.slice pa na ca) na (la.map (Value.int .i64)) :: rsl 1 (.slice pb nb cb) nb (lb.map (Value.int .i64)) :: L)) :
  Calls Tryz.prog 36 #[.slice pa na ca, .slice pb nb cb] w fun e w' => e = .returned (.bool (decide (la = lb))) ∧ SH B w' (rsl 1 (.slice pa na ca) na (la.map (Value.int .i64)) :: rsl 1 (.slice pb nb cb) nb (lb.map (Value.int .i64)) :: L) := by
 subst ha hb; exact Refs_any la lb pa pb ca cb hl h
end Go.Proofs.YtjlgchdekhmnnaaGreatDoor
end
section
namespace Go.Proofs.YtjlgchdekhmnnaaGreatDoor
open Go.E
theorem one_69 : oneC Tryz.prog 69 = true := by kernel_rfl
theorem sl_77 : Tryz.prog.underlying 77 = some (.slice 69) := by kernel_rfl
theorem ss_69 : sizes Tryz.prog 69 = some (.slice none 0 0, 1, 24) := by kernel_rfl
theorem sz_69 : (Tryz.prog.info? 69).map (·.size) = some 1 := by kernel_rfl
end Go.Proofs.YtjlgchdekhmnnaaGreatDoor
end
section
open Go Go.RowKit Go.E
namespace Go.Proofs.YtjlgchdekhmnnaaGreatDoor
theorem rp_snd (xs : List Int) (l : List Ct.Ent) : (Ct.replayM xs l).2 = (Ct.executeF xs l 0).2.1 := by
 unfold Ct.replayM; split
 ·rename_i h; rw [h]
 ·rfl
theorem rp_nil (xs : List Int) (l : List Ct.Ent) (h : (Ct.executeF xs l 0).2.1 ≠ 0) : (Ct.replayM xs l).1 = [] := by
 unfold Ct.replayM; rw [if_neg h]
theorem rp_fit (xs : List Int) (l : List Ct.Ent) (h : (Ct.executeF xs l 0).2.1 = 0) : (Ct.replayM xs l).1 = (Ct.fitsF xs l 0).2.1 := by
 have := Ct.fits_execute l xs 0
 unfold Ct.replayM; rw [if_pos h]
 exact (this.2.2 (this.2.1.trans h)).symm
theorem rp_len (xs : List Int) (l : List Ct.Ent) (hl : xs.length ≤ 1000000) : (Ct.replayM xs l).1.length ≤ 1000000 := by
 unfold Ct.replayM; split
 ·rw [Ct.executeF_len]; exact hl
 ·exact Nat.zero_le _
set_option maxRecDepth 100000 in
theorem TraceChecks_any {B w : World} {L : List As} (xs0 : List Int) (p : Option Addr) (c : Nat) (l0 : List Ct.Ent) (pl : Option Addr) (cle : Nat) (ch : List Int) (ph : Option Addr) (chc : Nat) (h : SH B w (rsl 1 (.slice p xs0.length c) xs0.length (xs0.map (Value.int .i64)) :: rsl 7 (.slice pl l0.length cle) l0.length (l0.flatMap entC) :: rsl 1 (.slice ph ch.length chc) ch.length (ch.map (Value.int .i64)) :: L)) :
  Calls Tryz.prog 6 #[.slice p xs0.length c, .slice pl l0.length cle, .slice ph ch.length chc] w fun e w' => e = .returned (.bool true) ∧ SH B w' (rsl 1 (.slice p xs0.length c) xs0.length (xs0.map (Value.int .i64)) :: rsl 7 (.slice pl l0.length cle) l0.length (l0.flatMap entC) :: rsl 1 (.slice ph ch.length chc) ch.length (ch.map (Value.int .i64)) :: L) := by
 refine bgn (args := [_, _, _]) Tryz.func6 rfl Tryz.ntmps6 rfl ?_
 refine sq <| rg <| st (sg rfl) <| xe <| nx <| sq <| rg <| st (mv rfl) <| cl (ca en_30 rfl) ((firstR_any xs0 p c 20 (by decide) (h.fr (.c r0 .n))).mono ?_)
 rintro _ w ⟨px, cx, rfl, h⟩
 have hxs : (xs0.take 20).length ≤ 20 := by rw [List.length_take]; omega
 generalize xs0.take 20 = xs at h hxs ⊢
 refine ⟨_, rfl, ?_⟩
 refine st (sg rfl) <| xe <| nx <| sq <| rg <| sf (bu [.int .i64 0, .int .i64 1, .int .i64 2] h sl_56 ss_40 rfl (by kernel_rfl) rfl (by decide) (by decide)) <| ?_
 rintro _ w ⟨b1, rfl, h⟩
 refine st (sg rfl) <| xe <| nx <| sq <| sq <| rg <| st (mv rfl) <| cl (ca en_31 rfl) ((firstE_any l0 pl cle 40 (by decide) (h.fr (.c r3 .n))).mono ?_)
 rintro _ w ⟨py, cy, rfl, h⟩
 have hys : (l0.take 40).length ≤ 40 := by rw [List.length_take]; omega
 generalize l0.take 40 = ys at h hys ⊢
 refine ⟨_, rfl, ?_⟩
 refine st (mv rfl) <| st (mv rfl) <| cl (ca en_32 rfl) ((entries_any ch ph chc xs px cx (by omega) (h.fr (.c r5 (.c r3 .n)))).mono ?_)
 rintro _ w ⟨es, pe, ce, _, rfl, hes, rfl, h⟩
 refine ⟨_, rfl, ?_⟩
 refine sf (bu [.slice py ys.length cy, .slice pe es.length ce] h sl_77 ss_69 rfl (by kernel_rfl) rfl (by decide) (by decide)) <| ?_
 rintro _ w ⟨b2, rfl, h⟩
 refine st (ln sl_77 rfl rfl) <| st (mv rfl) <| xe <| nx <| bk <| ?_
 refine lp (α := Nat) (fun x => (.c 0 (.slice px xs.length cx) (.c 2 (.slice ph ch.length chc) (.c 7 (.slice (some ⟨b1, 0, none⟩) 3 3) (.c 31 (.slice (some ⟨b2, 0, none⟩) 2 2) (.c 32 (.int .i64 2) (.c 33 (.int .i64 ((x : Nat) : Int)) .n))))))) (fun x w => SH B w (osl 69 1 (.slice (some ⟨b2, 0, none⟩) 2 2) 2 ([.slice py ys.length cy, .slice pe es.length ce]) :: osl 40 1 (.slice (some ⟨b1, 0, none⟩) 3 3) 3 ([.int .i64 0, .int .i64 1, .int .i64 2]) :: rsl 1 (.slice px xs.length cx) xs.length (xs.map (Value.int .i64)) :: rsl 7 (.slice py ys.length cy) ys.length (ys.flatMap entC) :: rsl 7 (.slice pe es.length ce) es.length (es.flatMap entC) :: rsl 1 (.slice ph ch.length chc) ch.length (ch.map (Value.int .i64)) :: rsl 1 (.slice p xs0.length c) xs0.length (xs0.map (Value.int .i64)) :: rsl 7 (.slice pl l0.length cle) l0.length (l0.flatMap entC) :: L) ∧ (x ≤ 2)) (fun x => 2 - x) 0 ⟨rfl, rfl, rfl, rfl, rfl, rfl, trivial⟩ ⟨(h.fr (.c r0 (.c r5 (.c r2 (.c r2 (.c r0 (.c r0 (.c r1 (.c r0 .n))))))))), Nat.zero_le _⟩ ?_
 rintro k w ⟨h, hk⟩
 rcases (show k = 0 ∨ k = 1 ∨ k = 2 by omega) with rfl | rfl | rfl
 ·refine sq <| rg <| st (bi rfl rfl rfl) <| xe <| nx <| sq <| cT rfl <| sk <| nx <| sq <| bk <| sq <| rg <| st (ix (j := 0) sl_77 sz_69 rfl rfl (by omega)) <| st (ld one_69 rfl ((h.ro Go.E.a0).2 0 _ rfl)) <| st (sg rfl) <| xe <| nx <| sq <| rg <| st (mv rfl) <| st (mv rfl) <| cl (ca en_33 rfl) ((Check_any xs px cx (by omega) ys py cy (by omega) (h.fr (.c r2 (.c r2 .n)))).mono ?_)
  rintro _ w ⟨rfl, h⟩
  refine ⟨_, rfl, ?_⟩
  refine st (mv rfl) <| st (xr rfl rfl) <| st (xr rfl rfl) <| st (sg rfl) <| st (sg rfl) <| xe <| nx <| sq <| rg <| st (mv rfl) <| st (mv rfl) <| cl (ca en_34 rfl) ((Fits_any xs px cx (by omega) ys py cy (by omega) (h.fr (.c r0 (.c r0 .n)))).mono ?_)
  rintro _ w ⟨p3, c4, n5, hn5, rfl, h⟩
  refine ⟨_, rfl, ?_⟩
  refine st (mv rfl) <| st (xr rfl rfl) <| st (xr rfl rfl) <| st (xr rfl rfl) <| st (sg rfl) <| st (sg rfl) <| st (sg rfl) <| xe <| nx <| sq <| rg <| st (mv rfl) <| st (mv rfl) <| cl (ca en_35 rfl) ((Replay_any xs px cx (by omega) ys py cy (by omega) (h.fr (.c r1 (.c r1 .n)))).mono ?_)
  rintro _ w ⟨p6, c7, n8, hn8, rfl, h⟩
  refine ⟨_, rfl, ?_⟩
  refine st (mv rfl) <| st (xr rfl rfl) <| st (xr rfl rfl) <| st (sg rfl) <| st (sg rfl) <| xe <| nx <| sq <| rg <| st (mv rfl) <| st (mv rfl) <| st (bi rfl rfl rfl) <| st (mv rfl) <| gT rfl rfl (bneF (by rw [(Ct.fits_execute ys xs 0).1])) <| st (mv rfl) <| gT rfl rfl (bneF (by rw [(Ct.fits_execute ys xs 0).1])) <| st (mv rfl) <| gT rfl rfl (bneF (by rw [(Ct.fits_execute ys xs 0).1])) <| st (bi rfl rfl rfl) <| st (pF rfl (bneF (by rw [(Ct.fits_execute ys xs 0).1])) rfl) <| st (mv rfl) <| gT rfl rfl (bneF (Ct.fits_execute ys xs 0).2.1.symm) <| st (mv rfl) <| gT rfl rfl (bneF (Ct.fits_execute ys xs 0).2.1.symm) <| st (mv rfl) <| gT rfl rfl (bneF (Ct.fits_execute ys xs 0).2.1.symm) <| st (bi rfl rfl rfl) <| st (pF rfl (bneF (Ct.fits_execute ys xs 0).2.1.symm) rfl) <| st (mv rfl) <| gT rfl rfl (bneF ((rp_snd xs ys).trans (Ct.fits_execute ys xs 0).2.1.symm)) <| st (mv rfl) <| gT rfl rfl (bneF ((rp_snd xs ys).trans (Ct.fits_execute ys xs 0).2.1.symm)) <| st (bi rfl rfl rfl) <| gT rfl rfl (bneF ((rp_snd xs ys).trans (Ct.fits_execute ys xs 0).2.1.symm)) <| st (mv rfl) <| ?_
  rcases Bool.eq_false_or_eq_true (((Ct.executeF xs ys 0).2.1 : Int) == 0) with hd9 | hd9
  ·have hg10 := eq_of_beq hd9
   refine gT rfl rfl hd9 <| st (mv rfl) <| gT rfl rfl hd9 <| st (mv rfl) <| gT rfl rfl hd9 <| cl (ca en_36 rfl) ((RefsN_any ((Ct.replayM xs ys).1) ((Ct.fitsF xs ys 0).2.1) n8 n5 hn8 hn5 p6 p3 c7 c4 (by rw [← hn8]; exact rp_len xs ys (by omega)) (h.fr (.c r0 (.c r2 .n)))).mono ?_)
   rintro _ w ⟨rfl, h⟩
   refine ⟨_, rfl, ?_⟩
   refine gT rfl rfl hd9 <| st (nt rfl) <| gT rfl rfl (bneF ((rp_snd xs ys).trans (Ct.fits_execute ys xs 0).2.1.symm)) <| st (pT rfl hd9 rfl) <| st (pF rfl (bneF ((rp_snd xs ys).trans (Ct.fits_execute ys xs 0).2.1.symm)) rfl) <| st (mv rfl) <| gT rfl rfl (by rw [decide_eq_true (rp_fit xs ys (eq_of_beq hd9))]; rfl) <| st (mv rfl) <| gT rfl rfl (by rw [decide_eq_true (rp_fit xs ys (eq_of_beq hd9))]; rfl) <| st (bi rfl rfl rfl) <| gT rfl rfl (by rw [decide_eq_true (rp_fit xs ys (eq_of_beq hd9))]; rfl) <| st (mv rfl) <| gF rfl rfl (bneF (eq_of_beq hd9)) <| gF rfl rfl (bneF (eq_of_beq hd9)) <| gF rfl rfl (bneF (eq_of_beq hd9)) <| gT rfl rfl (by rw [decide_eq_true (rp_fit xs ys (eq_of_beq hd9))]; rfl) <| st (pF rfl (bneF (eq_of_beq hd9)) rfl) <| st (pF rfl (by rw [decide_eq_true (rp_fit xs ys (eq_of_beq hd9))]; rfl) rfl) <| xe <| nx <| cF rfl <| sk <| bn <| nx <| rg <| st (bw rfl rfl (wadd (c := 1) (by omega) (by omega) (by omega))) <| st (mv rfl) <| xe <| nx <| ?_
   exact ⟨(1), ⟨rfl, rfl, rfl, rfl, rfl, rfl, trivial⟩, ⟨(h.drop.drop.fr (.c r2 (.c r2 (.c r0 (.c r0 (.c r0 (.c r0 (.c r0 (.c r0 .n))))))))), by (try dsimp only); omega⟩, by (try dsimp only); omega⟩
  ·have hg11 := ne_of_beq_false hd9
   refine gF rfl rfl hd9 <| gF rfl rfl hd9 <| gF rfl rfl hd9 <| gF rfl rfl hd9 <| gT rfl rfl (bneF ((rp_snd xs ys).trans (Ct.fits_execute ys xs 0).2.1.symm)) <| st (pF rfl hd9 rfl) <| st (pF rfl (bneF ((rp_snd xs ys).trans (Ct.fits_execute ys xs 0).2.1.symm)) rfl) <| st (mv rfl) <| gT rfl rfl rfl <| st (mv rfl) <| gT rfl rfl rfl <| st (bi rfl rfl rfl) <| gT rfl rfl rfl <| st (mv rfl) <| gT rfl rfl (bne_iff_ne.2 (ne_of_beq_false hd9)) <| st (mv rfl) <| gT rfl rfl (bne_iff_ne.2 (ne_of_beq_false hd9)) <| st (ln sl_56 rfl rfl) <| gT rfl rfl (bne_iff_ne.2 (ne_of_beq_false hd9)) <| st (bi rfl rfl rfl) <| gT rfl rfl rfl <| st (pT rfl (bne_iff_ne.2 (ne_of_beq_false hd9)) rfl) <| st (pF rfl rfl rfl) <| xe <| nx <| cf rfl (by rw [← hn8, rp_nil xs ys (ne_of_beq_false hd9)]; rfl) <| sk <| bn <| nx <| rg <| st (bw rfl rfl (wadd (c := 1) (by omega) (by omega) (by omega))) <| st (mv rfl) <| xe <| nx <| ?_
   exact ⟨(1), ⟨rfl, rfl, rfl, rfl, rfl, rfl, trivial⟩, ⟨((h.fr (.c r0 (.c r2 .n))).drop.drop.fr (.c r2 (.c r2 (.c r0 (.c r0 (.c r0 (.c r0 (.c r0 (.c r0 .n))))))))), by (try dsimp only); omega⟩, by (try dsimp only); omega⟩
 ·refine sq <| rg <| st (bi rfl rfl rfl) <| xe <| nx <| sq <| cT rfl <| sk <| nx <| sq <| bk <| sq <| rg <| st (ix (j := 1) sl_77 sz_69 rfl rfl (by omega)) <| st (ld one_69 rfl ((h.ro Go.E.a0).2 1 _ rfl)) <| st (sg rfl) <| xe <| nx <| sq <| rg <| st (mv rfl) <| st (mv rfl) <| cl (ca en_33 rfl) ((Check_any xs px cx (by omega) es pe ce (by omega) (h.fr (.c r2 (.c r3 .n)))).mono ?_)
  rintro _ w ⟨rfl, h⟩
  refine ⟨_, rfl, ?_⟩
  refine st (mv rfl) <| st (xr rfl rfl) <| st (xr rfl rfl) <| st (sg rfl) <| st (sg rfl) <| xe <| nx <| sq <| rg <| st (mv rfl) <| st (mv rfl) <| cl (ca en_34 rfl) ((Fits_any xs px cx (by omega) es pe ce (by omega) (h.fr (.c r0 (.c r0 .n)))).mono ?_)
  rintro _ w ⟨p12, c13, n14, hn14, rfl, h⟩
  refine ⟨_, rfl, ?_⟩
  refine st (mv rfl) <| st (xr rfl rfl) <| st (xr rfl rfl) <| st (xr rfl rfl) <| st (sg rfl) <| st (sg rfl) <| st (sg rfl) <| xe <| nx <| sq <| rg <| st (mv rfl) <| st (mv rfl) <| cl (ca en_35 rfl) ((Replay_any xs px cx (by omega) es pe ce (by omega) (h.fr (.c r1 (.c r1 .n)))).mono ?_)
  rintro _ w ⟨p15, c16, n17, hn17, rfl, h⟩
  refine ⟨_, rfl, ?_⟩
  refine st (mv rfl) <| st (xr rfl rfl) <| st (xr rfl rfl) <| st (sg rfl) <| st (sg rfl) <| xe <| nx <| sq <| rg <| st (mv rfl) <| st (mv rfl) <| st (bi rfl rfl rfl) <| st (mv rfl) <| gT rfl rfl (bneF (by rw [(Ct.fits_execute es xs 0).1])) <| st (mv rfl) <| gT rfl rfl (bneF (by rw [(Ct.fits_execute es xs 0).1])) <| st (mv rfl) <| gT rfl rfl (bneF (by rw [(Ct.fits_execute es xs 0).1])) <| st (bi rfl rfl rfl) <| st (pF rfl (bneF (by rw [(Ct.fits_execute es xs 0).1])) rfl) <| st (mv rfl) <| gT rfl rfl (bneF (Ct.fits_execute es xs 0).2.1.symm) <| st (mv rfl) <| gT rfl rfl (bneF (Ct.fits_execute es xs 0).2.1.symm) <| st (mv rfl) <| gT rfl rfl (bneF (Ct.fits_execute es xs 0).2.1.symm) <| st (bi rfl rfl rfl) <| st (pF rfl (bneF (Ct.fits_execute es xs 0).2.1.symm) rfl) <| st (mv rfl) <| gT rfl rfl (bneF ((rp_snd xs es).trans (Ct.fits_execute es xs 0).2.1.symm)) <| st (mv rfl) <| gT rfl rfl (bneF ((rp_snd xs es).trans (Ct.fits_execute es xs 0).2.1.symm)) <| st (bi rfl rfl rfl) <| gT rfl rfl (bneF ((rp_snd xs es).trans (Ct.fits_execute es xs 0).2.1.symm)) <| st (mv rfl) <| ?_
  rcases Bool.eq_false_or_eq_true (((Ct.executeF xs es 0).2.1 : Int) == 0) with hd18 | hd18
  ·have hg19 := eq_of_beq hd18
   refine gT rfl rfl hd18 <| st (mv rfl) <| gT rfl rfl hd18 <| st (mv rfl) <| gT rfl rfl hd18 <| cl (ca en_36 rfl) ((RefsN_any ((Ct.replayM xs es).1) ((Ct.fitsF xs es 0).2.1) n17 n14 hn17 hn14 p15 p12 c16 c13 (by rw [← hn17]; exact rp_len xs es (by omega)) (h.fr (.c r0 (.c r2 .n)))).mono ?_)
   rintro _ w ⟨rfl, h⟩
   refine ⟨_, rfl, ?_⟩
   refine gT rfl rfl hd18 <| st (nt rfl) <| gT rfl rfl (bneF ((rp_snd xs es).trans (Ct.fits_execute es xs 0).2.1.symm)) <| st (pT rfl hd18 rfl) <| st (pF rfl (bneF ((rp_snd xs es).trans (Ct.fits_execute es xs 0).2.1.symm)) rfl) <| st (mv rfl) <| gT rfl rfl (by rw [decide_eq_true (rp_fit xs es (eq_of_beq hd18))]; rfl) <| st (mv rfl) <| gT rfl rfl (by rw [decide_eq_true (rp_fit xs es (eq_of_beq hd18))]; rfl) <| st (bi rfl rfl rfl) <| gT rfl rfl (by rw [decide_eq_true (rp_fit xs es (eq_of_beq hd18))]; rfl) <| st (mv rfl) <| gF rfl rfl (bneF (eq_of_beq hd18)) <| gF rfl rfl (bneF (eq_of_beq hd18)) <| gF rfl rfl (bneF (eq_of_beq hd18)) <| gT rfl rfl (by rw [decide_eq_true (rp_fit xs es (eq_of_beq hd18))]; rfl) <| st (pF rfl (bneF (eq_of_beq hd18)) rfl) <| st (pF rfl (by rw [decide_eq_true (rp_fit xs es (eq_of_beq hd18))]; rfl) rfl) <| xe <| nx <| cF rfl <| sk <| bn <| nx <| rg <| st (bw rfl rfl (wadd (c := 2) (by omega) (by omega) (by omega))) <| st (mv rfl) <| xe <| nx <| ?_
   exact ⟨(2), ⟨rfl, rfl, rfl, rfl, rfl, rfl, trivial⟩, ⟨(h.drop.drop.fr (.c r2 (.c r2 (.c r0 (.c r1 (.c r0 (.c r0 (.c r0 (.c r0 .n))))))))), by (try dsimp only); omega⟩, by (try dsimp only); omega⟩
  ·have hg20 := ne_of_beq_false hd18
   refine gF rfl rfl hd18 <| gF rfl rfl hd18 <| gF rfl rfl hd18 <| gF rfl rfl hd18 <| gT rfl rfl (bneF ((rp_snd xs es).trans (Ct.fits_execute es xs 0).2.1.symm)) <| st (pF rfl hd18 rfl) <| st (pF rfl (bneF ((rp_snd xs es).trans (Ct.fits_execute es xs 0).2.1.symm)) rfl) <| st (mv rfl) <| gT rfl rfl rfl <| st (mv rfl) <| gT rfl rfl rfl <| st (bi rfl rfl rfl) <| gT rfl rfl rfl <| st (mv rfl) <| gT rfl rfl (bne_iff_ne.2 (ne_of_beq_false hd18)) <| st (mv rfl) <| gT rfl rfl (bne_iff_ne.2 (ne_of_beq_false hd18)) <| st (ln sl_56 rfl rfl) <| gT rfl rfl (bne_iff_ne.2 (ne_of_beq_false hd18)) <| st (bi rfl rfl rfl) <| gT rfl rfl rfl <| st (pT rfl (bne_iff_ne.2 (ne_of_beq_false hd18)) rfl) <| st (pF rfl rfl rfl) <| xe <| nx <| cf rfl (by rw [← hn17, rp_nil xs es (ne_of_beq_false hd18)]; rfl) <| sk <| bn <| nx <| rg <| st (bw rfl rfl (wadd (c := 2) (by omega) (by omega) (by omega))) <| st (mv rfl) <| xe <| nx <| ?_
   exact ⟨(2), ⟨rfl, rfl, rfl, rfl, rfl, rfl, trivial⟩, ⟨((h.fr (.c r0 (.c r2 .n))).drop.drop.fr (.c r2 (.c r2 (.c r0 (.c r1 (.c r0 (.c r0 (.c r0 (.c r0 .n))))))))), by (try dsimp only); omega⟩, by (try dsimp only); omega⟩
 ·refine sq <| rg <| st (bi rfl rfl rfl) <| xe <| nx <| sq <| cF rfl <| xt <| tx <| tx <| be <| nx <| sq <| rg <| st (mv rfl) <| st (mv rfl) <| cl (ca en_32 rfl) ((entries_any ch ph chc [0, 1, 2] (some ⟨b1, 0, none⟩) 3 (by decide) (fz2 (h.fr (.c r5 (.c r1 .n))))).mono ?_)
  rintro _ w ⟨zs, pz, cz, _, rfl, hzs, rfl, h⟩
  refine ⟨_, rfl, ?_⟩
  refine st (sg rfl) <| xe <| nx <| sq <| rg <| st (mv rfl) <| st (mv rfl) <| cl (ca en_33 rfl) ((Check_any [0, 1, 2] (some ⟨b1, 0, none⟩) 3 (by decide) zs pz cz (by omega) (h.fr (.c r2 (.c r0 .n)))).mono ?_)
  rintro _ w ⟨rfl, h⟩
  refine ⟨_, rfl, ?_⟩
  refine st (mv rfl) <| st (xr rfl rfl) <| st (xr rfl rfl) <| st (sg rfl) <| st (sg rfl) <| xe <| nx <| sq <| rg <| st (mv rfl) <| st (mv rfl) <| cl (ca en_34 rfl) ((Fits_any [0, 1, 2] (some ⟨b1, 0, none⟩) 3 (by decide) zs pz cz (by omega) (h.fr (.c r0 (.c r0 .n)))).mono ?_)
  rintro _ w ⟨p21, c22, n23, hn23, rfl, h⟩
  refine ⟨_, rfl, ?_⟩
  refine st (mv rfl) <| st (xr rfl rfl) <| st (xr rfl rfl) <| st (xr rfl rfl) <| st (sg rfl) <| st (sg rfl) <| st (sg rfl) <| xe <| nx <| sq <| rg <| cl (ca en_37 rfl) ((awake_any (h.fr .n)).mono ?_)
  rintro _ w ⟨rfl, h⟩
  refine ⟨_, rfl, ?_⟩
  refine st (mv rfl) <| gT rfl rfl rfl <| st (mv rfl) <| gT rfl rfl rfl <| st (mv rfl) <| gT rfl rfl rfl <| st (bi rfl rfl rfl) <| st (pT rfl rfl rfl) <| st (mv rfl) <| gT rfl rfl (beq_iff_eq.2 (by rw [(Ct.fits_execute zs ([0, 1, 2]) 0).1])) <| st (mv rfl) <| gT rfl rfl (beq_iff_eq.2 (by rw [(Ct.fits_execute zs ([0, 1, 2]) 0).1])) <| st (mv rfl) <| gT rfl rfl (beq_iff_eq.2 (by rw [(Ct.fits_execute zs ([0, 1, 2]) 0).1])) <| st (bi rfl rfl rfl) <| st (pT rfl (beq_iff_eq.2 (by rw [(Ct.fits_execute zs ([0, 1, 2]) 0).1])) rfl) <| st (sg rfl) <| xe <| nx <| rt <| ?_
  refine rr (res1 Tryz.results6 rfl) <| ?_
  rw [show (((Ct.executeF ([0, 1, 2]) zs 0).2.1 : Int) == (Ct.fitsF ([0, 1, 2]) zs 0).2.2) = true from beq_iff_eq.2 (Ct.fits_execute zs [0, 1, 2] 0).2.1.symm]; exact ⟨rfl, ((h.fr (.c r0 (.c r0 (.c r0 (.c r1 (.c r1 (.c r1 (.c r1 .n)))))))).drop.drop.drop.drop.drop.drop.drop.fr (.c r1 (.c r1 (.c r0 .n))))⟩
end Go.Proofs.YtjlgchdekhmnnaaGreatDoor
end
section
open Go Go.RowKit Go.E Go.ChangeShapes Go.WideShapes
namespace Go.Proofs.YtjlgchdekhmnnaaGreatDoor
section
variable {H : Type} {enc : TypeId × Value → H} {P : Program} {W : World} {sp : Nat → Bool} {held : Bool}
theorem slice_ok {base : Nat} {t e : TypeId} {a : Addr} {len cap : Nat} (ht : P.underlying t = some (.slice e)) (h : Value.okWide P W .any base t (.slice (some a) len cap)) : a.spot = none ∧ a.block < W.heap.size := by
 simp only [Value.okWide, ht, Cell.okWide, Cell.ok, World.has] at h
 obtain ⟨_, _, _, h1, row, cells, h2, _⟩ := h
 refine ⟨h1, ?_⟩
 unfold World.shape? at h2
 cases hq : W.heap[a.block]? with
 | none => rw [hq] at h2; cases h2
 | some o => exact (Array.getElem?_eq_some_iff.1 hq).1
theorem reads_ints {base : Nat} {t e : TypeId} {k : IntKind} {v : Value} {d : DataW H} {ps : List MemPlace} (ht : P.underlying t = some (.slice e)) (he : P.underlying e = some (.int k)) (hc : P.cellsOf e = 1) (hval : Value.okWide P W .any base t v) (hd : DataW.Trod enc P W 0 (fun _ => true) held t v d ps) :
  ∃ (zs : List Int) (p : Option Addr) (c : Nat), v = .slice p zs.length c ∧ Reads W 1 v zs.length (zs.map (Value.int k)) := by
 obtain ⟨a0, len, cap, rfl⟩ := okWide_slice ht hval
 obtain ⟨n, hf⟩ := hd
 rcases open_ints ht he hc hf with ⟨hcs, hx⟩ | ⟨a, len', cap', zs, hcs, _, hl, hm, hz, hx, hcell, hwz⟩
 ·simp [Value.cells] at hcs
  obtain ⟨rfl, rfl, rfl⟩ := hcs
  exact ⟨[], none, 0, rfl, rfl, .inl ⟨rfl, rfl⟩⟩
 ·simp [Value.cells] at hcs
  obtain ⟨rfl, rfl, rfl⟩ := hcs
  obtain ⟨h1, h2⟩ := slice_ok ht hval
  obtain ⟨b, o, s⟩ := a
  dsimp only at h1 h2
  subst h1
  simp only [if_true] at hz
  have hlen : (zs.take len).length = len := by rw [List.length_take]; omega
  refine ⟨zs.take len, some ⟨b, o, none⟩, cap, by rw [hlen], by simp, .inr ⟨b, o, cap, by rw [hlen], h2, by rw [hlen]; exact hl, hm, fun j u hu => ?_⟩⟩
  have hj : j < len := by have := (List.getElem?_eq_some_iff.1 hu).1; simp only [List.length_map, hlen] at this; exact this
  have := hcell j (by omega)
  rw [addr_add] at this
  rw [this]
  rw [List.getElem?_map, List.getElem?_take, if_pos hj, List.getElem?_eq_getElem (by omega)] at hu
  simp only [Option.map_some, Option.some.injEq] at hu
  rw [← hu, List.getD_eq_getElem?_getD, List.getElem?_eq_getElem (by omega)]; rfl
theorem reads_rows {α : Type} [Inhabited α] {enc' : α → List Value} {sz base : Nat} {t e : TypeId} {v : Value} {d : DataW H} {ps : List MemPlace} (hlen' : ∀ x, (enc' x).length = sz) (hs : 0 < sz) (ht : P.underlying t = some (.slice e)) (hc : P.cellsOf e = sz)
  (hrow : ∀ (n : Nat) (cs : List Value) (x : DataW H × List MemPlace), DataW.trod enc P W 0 (fun _ => true) held n e cs = some x → ∃ y : α, cs = enc' y) (hval : Value.okWide P W .any base t v) (hd : DataW.Trod enc P W 0 (fun _ => true) held t v d ps) :
  ∃ (ys : List α) (p : Option Addr) (c : Nat), v = .slice p ys.length c ∧ Reads W sz v ys.length (ys.flatMap enc') := by
 obtain ⟨a0, len, cap, rfl⟩ := okWide_slice ht hval
 obtain ⟨n, hf⟩ := hd
 rcases Go.Deep.open_slice ht hf with ⟨hcs, hx⟩ | ⟨a, len', cap', m, n', D, Pl, hcs, _, hl, hm, hmm, hx, hcell⟩
 ·simp [Value.cells] at hcs
  obtain ⟨rfl, rfl, rfl⟩ := hcs
  exact ⟨[], none, 0, rfl, by simp, .inl ⟨rfl, rfl⟩⟩
 ·simp [Value.cells] at hcs
  obtain ⟨rfl, rfl, rfl⟩ := hcs
  obtain ⟨h1, h2⟩ := slice_ok ht hval
  obtain ⟨b, o, s⟩ := a
  dsimp only at h1 h2
  subst h1
  simp only [if_true] at hmm
  rw [hc] at hcell
  obtain ⟨Y, hY⟩ := Go.Deep.choose_lt (n := len) (p := fun i (y : α) => W.cells? 0 ((⟨b, o, none⟩ : Addr).add (i * sz)) sz = some (enc' y)) (fun i hi => by
   obtain ⟨cs', g1, g2⟩ := hcell i (by omega)
   obtain ⟨y, rfl⟩ := hrow _ _ _ g2
   exact ⟨y, g1⟩)
  have hlen : ((List.range len).map Y).length = len := by simp
  refine ⟨(List.range len).map Y, some ⟨b, o, none⟩, cap, by rw [hlen], by rw [Go.E.flat_len hlen', hlen], .inr ⟨b, o, cap, by rw [hlen], h2, by rw [hlen]; exact hl, hm, fun j u hu => ?_⟩⟩
  have hj : j < len * sz := by have := (List.getElem?_eq_some_iff.1 hu).1; rw [Go.E.flat_len hlen', hlen] at this; exact this
  have hq : j / sz < len := Nat.div_lt_of_lt_mul (by rw [Nat.mul_comm]; exact hj)
  have hr : j % sz < sz := Nat.mod_lt _ hs
  have hdm : j / sz * sz + j % sz = j := by rw [Nat.mul_comm]; exact Nat.div_add_mod j sz
  have hg := Go.E.flat_get hlen' ((List.range len).map Y) (j / sz) (j % sz) (Y (j / sz)) (by rw [List.getElem?_map, List.getElem?_range hq]; rfl) hr
  rw [hdm, hu] at hg
  have := (World.cells?_some (hY _ hq)).2.2 (j % sz) hr
  rw [addr_add, addr_add, Nat.add_assoc, hdm, ← hg] at this
  exact this
end
instance : Inhabited Ct.Ent := ⟨{}⟩
theorem cellsE : Tryz.prog.cellsOf 75 = 7 := by kernel_rfl
theorem cellsA : Tryz.prog.cellsOf 73 = 4 := by kernel_rfl
theorem cells1 : Tryz.prog.cellsOf 3 = 1 ∧ Tryz.prog.cellsOf 40 = 1 ∧ Tryz.prog.cellsOf 41 = 1 ∧ Tryz.prog.cellsOf 4 = 1 := ⟨by kernel_rfl, by kernel_rfl, by kernel_rfl, by kernel_rfl⟩
set_option maxRecDepth 100000 in
theorem ent_row {H : Type} {enc : TypeId × Value → H} {W : World} {held : Bool} (n : Nat) (cs : List Value) (x : DataW H × List MemPlace) (h : DataW.trod enc Tryz.prog W 0 (fun _ => true) held n 75 cs = some x) : ∃ y : Ct.Ent, cs = entC y := by
 obtain ⟨y0, y1, y2, y3, m, _, hl, g0, g1, g2, g3⟩ := Go.Joins.trod_struct4 Tryz.underlying75 h
 obtain ⟨z0, z1, z2, z3, m2, _, hl2, k0, k1, k2, k3⟩ := Go.Joins.trod_struct4 Tryz.underlying73 g1
 rw [cellsE] at hl
 match cs, hl with
 | [c0, c1, c2, c3, c4, c5, c6], _ =>
  simp only [cellsA, cells1.1, cells1.2.1, cells1.2.2.1, cells1.2.2.2, List.drop_zero, List.drop_succ_cons, List.take_succ_cons, List.take_zero] at g0 g2 g3 k0 k1 k2 k3
  obtain ⟨v0, e0, _⟩ := DataW.trod_int Tryz.underlying3 g0
  obtain ⟨v1, e1, _⟩ := DataW.trod_int Tryz.underlying3 k0
  obtain ⟨v2, e2, _⟩ := DataW.trod_int Tryz.underlying41 k1
  obtain ⟨v3, e3, _⟩ := DataW.trod_int Tryz.underlying40 k2
  obtain ⟨v4, e4, _⟩ := DataW.trod_int Tryz.underlying40 k3
  obtain ⟨v5, e5, _⟩ := DataW.trod_int Tryz.underlying40 g2
  obtain ⟨v6, e6, _⟩ := DataW.trod_bool Tryz.underlying4 g3
  injection e0 with e0; injection e1 with e1; injection e2 with e2; injection e3 with e3; injection e4 with e4; injection e5 with e5; injection e6 with e6
  subst e0 e1 e2 e3 e4 e5 e6
  exact ⟨{ thread := v0, acc := { kind := v1, cell := v2, old := v3, new := v4 }, loaded := v5, swapped := v6 }, rfl⟩
theorem fromFrz {B w W0 : World} {L : List As} (h : SH B w L) (m' : At L (frz W0)) {sz n : Nat} {v : Value} {xs : List Value} (hr : Reads W0 sz v n xs) : SH B w (rsl sz v n xs :: L) := h.dup m' fun O R hA => by
 refine ⟨fun k => v.ownBlock = some k, ⟨⟨hr.1, hr.2.imp id ?_⟩, fun _ h => h, fun _ => Iff.rfl⟩, fun k hk => (hA.2.2 k).2 ?_⟩
 ·rintro ⟨b, off, cap, rfl, g1, g2, g3, g4⟩
  exact ⟨b, off, cap, rfl, Nat.lt_of_lt_of_le g1 hA.1.size, g2, g3, fun j u hu => (World.cell?_of_block (hA.1.block b g1)).trans (g4 j u hu)⟩
 ·rcases hr.2 with ⟨rfl, _⟩ | ⟨b, off, cap, rfl, g1, _⟩
  ·cases hk
  ·injection hk with hk; exact hk ▸ g1
end Go.Proofs.YtjlgchdekhmnnaaGreatDoor
end
