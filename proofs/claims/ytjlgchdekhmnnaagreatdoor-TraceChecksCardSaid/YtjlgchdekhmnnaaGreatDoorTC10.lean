/- Parts of a proof: St4, Tyr, Rd, Tyq. -/
import Derived.Test.YtjlgchdekhmnnaaGreatDoorTC05
import Derived.Test.YtjlgchdekhmnnaaGreatDoorTC09
import Derived.Test.YtjlgchdekhmnnaaGreatDoorTC04
import Derived.Test.YtjlgchdekhmnnaaGreatDoorTC06
import Derived.Test.YtjlgchdekhmnnaaGreatDoorTC07
import Derived.Test.YtjlgchdekhmnnaaGreatDoorTC08
set_option linter.unusedVariables false
set_option linter.unusedSimpArgs false
section
namespace Go.Proofs.YtjlgchdekhmnnaaGreatDoor
open Go.RowKit Go.E
theorem arenaNode_x {B w : World} {L : List As} (a : Nat) (pn : Option Addr) (n cn : Nat) (pc : Option Addr) (cc : Nat) {N0 : Nat → Prop} (W0 : World) (s : Ct.St) (r : Int) (hA : ArenaAt ⟨a, .slice pn n cn, .slice pc s.cells.length cc, N0⟩ W0 s) (hroom : s.Room) (hshort : Ct.Short s) (h : SH B w (frz W0 :: L)) :
  Calls Tryz.prog 92 #[.pointer (some ⟨a, 0, none⟩), .int .i64 r] w fun e w' => ∃ x0 x1 x2 x3 x4 x5 x6 x7 x8 x9 x10 x11 x12 x13, e = .returned (.agg [x0, x1, x2, x3, x4, x5, x6, x7, x8, x9, x10, x11, x12, x13].toArray) ∧ (∀ u ∈ [x0, x1, x2, x3, x4, x5, x6, x7, x8, x9, x10, x11, x12, x13], Value.oneCell' u = true) ∧ SH B w' (frz W0 :: L) := by
 have hb := h.old Go.E.a0
 refine (node_any _ w s r (hA.below hb) hroom hshort).mono ?_
 rintro e w' ⟨cs, rfl, ⟨bv, pv, hc, h1, h2⟩, hb2⟩
 have o1 : bv.oneCell' = true := by
  rcases h1 with ⟨rfl, _⟩ | ⟨_, _, _, rfl, _⟩ <;> rfl
 have o2 : pv.oneCell' = true := by
  rcases h2 with ⟨rfl, _⟩ | ⟨_, _, _, rfl, _⟩ <;> rfl
 have ho := nodeCells_ones (s.node r) bv pv o1 o2
 subst hc
 exact ⟨_, _, _, _, _, _, _, _, _, _, _, _, _, _, rfl, ho, h.bel hb2⟩
set_option maxRecDepth 100000 in
theorem arenaNodes_any {B w : World} {L : List As} (a n cn : Nat) (pn pc : Option Addr) (cc : Nat) (s : Ct.St) (hn : n ≤ 274877906944) (h : SH B w (rb a ([.slice pn n cn, .slice pc s.cells.length cc, .int .i64 ((s.gen : Nat) : Int), .int .i64 ((s.acc : Nat) : Int)]) 93 :: L)) :
  Calls Tryz.prog 91 #[.pointer (some ⟨a, 0, none⟩)] w fun e w' => e = .returned (.int .i64 ((2 + n : Nat) : Int)) ∧ SH B w' (rb a ([.slice pn n cn, .slice pc s.cells.length cc, .int .i64 ((s.gen : Nat) : Int), .int .i64 ((s.acc : Nat) : Int)]) 93 :: L) := by
 refine bgn (args := [_]) Tryz.func91 rfl Tryz.ntmps91 rfl ?_
 refine sq <| rg <| st (sg rfl) <| xe <| nx <| sq <| rg <| st (mv rfl) <| st (nc rfl rfl) <| st (fa fo_93_0 rfl) <| st (ld one_55 rfl (h.rbc Go.E.a0 rfl)) <| st (ln sl_55 rfl rfl) <| st (bw rfl rfl (wadd (c := ((2 + n : Nat) : Int)) (by omega) (by omega) (by omega))) <| st (sg rfl) <| xe <| nx <| rt <| ?_
 refine rr (res1 Tryz.results91 rfl) <| ⟨rfl, h⟩
set_option maxRecDepth 100000 in
theorem arenaState_any {B w : World} {L : List As} (a n cn : Nat) (pn pc : Option Addr) (cc : Nat) (W0 : World) (s : Ct.St) (N0 : Nat → Prop) (hA : ArenaAt ⟨a, .slice pn n cn, .slice pc s.cells.length cc, N0⟩ W0 s) (hroom : s.Room) (hshort : Ct.Short s) (hn : n ≤ 274877906944) (hcl : s.cells.length ≤ 274877906944) (h : SH B w (frz W0 :: L)) :
  Calls Tryz.prog 58 #[.pointer (some ⟨a, 0, none⟩)] w fun e w' => ∃ p7 n7 c7 p9 c9, e = .returned (.agg [.slice p7 n7 c7, .slice p9 s.cells.length c9, .int .i64 ((s.gen : Nat) : Int)].toArray) ∧ SH B w' (osl 40 1 (.slice p9 s.cells.length c9) s.cells.length (s.cells.map (Value.int .i64)) :: frz W0 :: L) := by
 have h := h.oldRow Go.E.a0 hA.cells
 have h := h.oldBlk Go.E.a1 hA.block
 refine bgn (args := [_]) Tryz.func58 rfl Tryz.ntmps58 rfl ?_
 refine sq <| rg <| sf (al h zc_58) <| ?_
 rintro _ w ⟨b1, rfl, h⟩
 refine xe <| nx <| ?_
 refine sm (fun e w => ∃ b3 : Nat, ∃ p9 : Option Addr, ∃ c9 : Nat, Sub 35 e (.c 0 (.pointer (some ⟨a, 0, none⟩)) (.c 2 (.pointer (some ⟨b1, 0, none⟩)) (.c 3 (.pointer (some ⟨b3, 0, none⟩)) .n))) ∧ SH B w (bl b3 ([.slice none 0 0, .slice p9 s.cells.length c9, .int .i64 ((s.gen : Nat) : Int)]) 58 :: osl 40 1 (.slice p9 s.cells.length c9) s.cells.length (s.cells.map (Value.int .i64)) :: bl b1 ([.slice none 0 0, .slice none 0 0, .int .i64 0]) 58 :: rb a ([.slice pn n cn, .slice pc s.cells.length cc, .int .i64 ((s.gen : Nat) : Int), .int .i64 ((s.acc : Nat) : Int)]) 93 :: rsl 1 (.slice pc s.cells.length cc) s.cells.length (s.cells.map (Value.int .i64)) :: frz W0 :: L)) ?_ ?_
 ·refine drB (F := [rb a ([.slice pn n cn, .slice pc s.cells.length cc, .int .i64 ((s.gen : Nat) : Int), .int .i64 ((s.acc : Nat) : Int)]) 93]) [1, 3, 5, 7, 11, 13, 15, 17] 4 10 [19, 20, 22] [8, 19, 22] (by kernel_rfl) h (fun w h => (hC (h.at_ Go.E.a1) hN)) fun w h => tk (fun W H => mv rfl) <| tk (fun W H => nc rfl rfl) <| tk (fun W H => fa fo_93_1 rfl) <| tk (fun W H => ld one_56 rfl (H.rbc Go.E.a0 rfl)) <| tk (fun W H => mv rfl) <| tk (fun W H => nc rfl rfl) <| tk (fun W H => fa fo_93_2 rfl) <| tk (fun W H => ld one_3 rfl (H.rbc Go.E.a0 rfl)) <| xzB ?_ ?_
  ·refine cs (ca en_65 rfl) ((cloneR_any s.cells pc cc hcl (h.fr (.c r2 .n))).mono ?_)
   rintro _ w ⟨_, rfl, h⟩
   obtain ⟨p9, c9, rfl⟩ := h.fo Go.E.a0
   refine ⟨_, rfl, (hC (h.at_ Go.E.a3) hN), ?_⟩
   refine tk (fun W H => bd [.slice none 0 0, .slice p9 s.cells.length c9, .int .i64 ((s.gen : Nat) : Int)] bd_58 rfl (by kernel_rfl)) <| ff (al h zc_58) <| ?_
   rintro _ w ⟨b2, rfl, h⟩
   refine ⟨(hC (h.at_ Go.E.a4) hN), ?_⟩
   refine ff (so h rfl rfl rfl sz_58 rfl (.r (.r (.r .d))) u0) <| ?_
   rintro _ w h
   refine ⟨(hC (h.at_ Go.E.a4) hN), ?_⟩
   refine xz <| nx <| ?_
   exact ⟨b2, p9, c9, ⟨rfl, rfl, rfl, trivial⟩, (h.fr (.c r0 (.c r0 (.c r1 (.c r1 (.c r0 (.c r0 .n)))))))⟩
  ·refine ff (al h zc_58) <| ?_
   rintro _ w ⟨b3, rfl, h⟩
   refine ⟨(hC (h.at_ Go.E.a2) hN), ?_⟩
   refine cs (ca en_65 rfl) ((cloneR_any s.cells pc cc hcl (h.fr (.c r3 .n))).mono ?_)
   rintro _ w ⟨_, rfl, h⟩
   obtain ⟨p9, c9, rfl⟩ := h.fo Go.E.a0
   refine ⟨_, rfl, (hC (h.at_ Go.E.a4) hN), ?_⟩
   refine tk (fun W H => bd [.slice none 0 0, .slice p9 s.cells.length c9, .int .i64 ((s.gen : Nat) : Int)] bd_58 rfl (by kernel_rfl)) <| ff (so h rfl rfl rfl sz_58 rfl (.r (.r (.r .d))) u2) <| ?_
   rintro _ w h
   refine ⟨(hC (h.at_ Go.E.a4) hN), ?_⟩
   refine xz <| nx <| ?_
   exact ⟨b3, p9, c9, ⟨rfl, rfl, rfl, trivial⟩, (h.fr (.c r2 (.c r0 (.c r1 (.c r1 (.c r0 (.c r0 .n)))))))⟩
 rintro e w ⟨b3, p9, c9, hE, h⟩
 refine C.sub hE ?_
 clear hE e
 refine sq <| rg <| st (mv rfl) <| cl (ca en_91 rfl) ((arenaNodes_any a n cn pn pc cc s hn (h.fr (.c r3 .n))).mono ?_)
 rintro _ w ⟨rfl, h⟩
 refine ⟨_, rfl, ?_⟩
 refine sf (mk0 h sl_55 ss_136 rfl rfl (by omega) (by unfold maxLen; omega)) <| ?_
 rintro _ w ⟨b4, rfl, h⟩
 refine st (fa fo_58_0 rfl) <| sf (so h rfl rfl rfl sz_55 rfl (.r .d) u2) <| ?_
 rintro _ w h
 refine xe <| nx <| sq <| sq <| rg <| st (mv rfl) <| cl (ca en_91 rfl) ((arenaNodes_any a n cn pn pc cc s hn (h.fr (.c r1 .n))).mono ?_)
 rintro _ w ⟨rfl, h⟩
 refine ⟨_, rfl, ?_⟩
 refine st (mv rfl) <| xe <| nx <| bk <| ?_
 refine lp (α := Nat × List Value × Option Addr × Nat) (fun x => (.c 0 (.pointer (some ⟨a, 0, none⟩)) (.c 2 (.pointer (some ⟨b1, 0, none⟩)) (.c 3 (.pointer (some ⟨b3, 0, none⟩)) (.c 20 (.int .i64 ((2 + n : Nat) : Int)) (.c 21 (.int .i64 ((x.1 : Nat) : Int)) .n)))))) (fun x w => SH B w (bl b3 ([.slice x.2.2.1 x.1 x.2.2.2, .slice p9 s.cells.length c9, .int .i64 ((s.gen : Nat) : Int)]) 58 :: osl 136 14 (.slice x.2.2.1 x.1 x.2.2.2) x.1 x.2.1 :: bl b1 ([.slice none 0 0, .slice none 0 0, .int .i64 0]) 58 :: osl 40 1 (.slice p9 s.cells.length c9) s.cells.length (s.cells.map (Value.int .i64)) :: rsl 1 (.slice pc s.cells.length cc) s.cells.length (s.cells.map (Value.int .i64)) :: rb a ([.slice pn n cn, .slice pc s.cells.length cc, .int .i64 ((s.gen : Nat) : Int), .int .i64 ((s.acc : Nat) : Int)]) 93 :: frz W0 :: L) ∧ (x.1 ≤ 2 + n)) (fun x => 2 + n - x.1) (0, [], some ⟨b4, 0, none⟩, 2 + n) ⟨rfl, rfl, rfl, rfl, rfl, trivial⟩ ⟨(h.fr (.c r2 (.c r1 (.c r2 (.c r1 (.c r1 (.c r0 (.c r0 .n)))))))), Nat.zero_le _⟩ ?_
 rintro ⟨k, xs, p7, c7⟩ w ⟨h, hk⟩
 dsimp only at *
 refine sq <| rg <| st (bi rfl rfl rfl) <| xe <| nx <| sq <| ?_
 rcases Bool.eq_false_or_eq_true (decide ((((k : Nat) : Int) : Int) < ((2 + n : Nat) : Int))) with hd5 | hd5
 ·have hg6 := of_decide_eq_true hd5
  refine ct rfl hd5 <| sk <| nx <| sq <| bk <| sq <| rg <| st (mv rfl) <| st (sg rfl) <| xe <| nx <| drZ (F := [bl b3 ([.slice p7 k c7, .slice p9 s.cells.length c9, .int .i64 ((s.gen : Nat) : Int)]) 58]) [1, 3, 5, 7, 9, 10, 12, 14, 17] 9 (by kernel_rfl) h (fun w h => (hC (h.at_ Go.E.a0) hN)) fun w h => tk (fun W H => fa fo_58_0 rfl) <| tk (fun W H => ld one_55 rfl (H.c Go.E.a0 rfl)) <| tk (fun W H => mv rfl) <| tk (fun W H => mv rfl) <| tk (fun W H => bw rfl rfl (wadd (c := ((k + 1 : Nat) : Int)) (by omega) (by omega) (by omega))) <| cs (ca en_92 rfl) ((arenaNode_x a pn n cn pc cc W0 s ((k + 1 : Nat) : Int) hA hroom hshort (h.fr (.c r6 .n))).mono ?_)
  rintro _ w ⟨x0, x1, x2, x3, x4, x5, x6, x7, x8, x9, x10, x11, x12, x13, rfl, ho, h⟩
  refine ⟨_, rfl, (hC (h.at_ Go.E.a1) hN), ?_⟩
  refine ff (bu [x0, x1, x2, x3, x4, x5, x6, x7, x8, x9, x10, x11, x12, x13] h sl_55 ss_136 rfl (by kernel_rfl) rfl (by decide) (by decide)) <| ?_
  rintro _ w ⟨b7, rfl, h⟩
  refine ⟨(hC (h.at_ Go.E.a2) hN), ?_⟩
  refine ff (ap h sl_55 rfl ss_136 rfl (by decide) rfl rfl (fun _ => u3) (h.ro Go.E.a0) ho rfl rfl (by unfold maxLen; omega) (by omega)) <| ?_
  rintro _ w ⟨p8, c9, rfl, h⟩
  refine ⟨(hC (h.at_ Go.E.a2) hN), ?_⟩
  refine tk (fun W H => fa fo_58_0 rfl) <| xzZ <| sf (so h rfl rfl rfl sz_55 rfl (.r .d) u2) <| ?_
  rintro _ w h
  refine xe <| bn <| nx <| rg <| st (bw rfl rfl (wadd (c := ((k + 1 : Nat) : Int)) (by omega) (by omega) (by omega))) <| st (mv rfl) <| xe <| nx <| ?_
  exact ⟨(k + 1, xs ++ [x0, x1, x2, x3, x4, x5, x6, x7, x8, x9, x10, x11, x12, x13], p8, c9), ⟨rfl, rfl, rfl, rfl, rfl, trivial⟩, ⟨(h.drop.fr (.c r1 (.c r1 (.c r1 (.c r1 (.c r1 (.c r1 (.c r0 .n)))))))), by (try dsimp only); omega⟩, by (try dsimp only); omega⟩
 ·have hg10 := of_decide_eq_false hd5
  refine cf rfl hd5 <| xt <| tx <| tx <| be <| nx <| sq <| rg <| st (ldr rfl (rows_all (h.b Go.E.a0)) row_58) <| sf (so h rfl rfl rfl sz_58 rfl (.r (.r (.r .d))) u2) <| ?_
  rintro _ w h
  refine xe <| nx <| rt <| ?_
  refine rr (resC Tryz.results58 rfl (h.b Go.E.a2) row_58) <| ⟨_, _, _, p9, c9, rfl, (h.fr (.c r0 (.c r0 (.c r0 (.c r1 (.c r1 .n)))))).drop.drop.drop.drop.drop⟩
set_option maxRecDepth 100000 in
theorem schedState_x {B w : World} {L : List As} (a n cn : Nat) (pn pc : Option Addr) (cc : Nat) (W0 : World) (s : Ct.St) (N0 : Nat → Prop) (mb hb cnt : Nat) (vth vpk vhi : Value) (hA : ArenaAt ⟨a, .slice pn n cn, .slice pc s.cells.length cc, N0⟩ W0 s) (hM : W0.heap[mb]? = some (.cells [.pointer (some ⟨a, 0, none⟩), .pointer (some ⟨hb, 0, none⟩), vth, vpk, vhi, .int .i64 ((cnt : Nat) : Int)].toArray 125 (0, 0))) (hroom : s.Room) (hshort : Ct.Short s) (hn : n ≤ 274877906944) (hcl : s.cells.length ≤ 274877906944) (h : SH B w (frz W0 :: L)) :
  Calls Tryz.prog 21 #[.pointer (some ⟨mb, 0, none⟩)] w fun e w' => ∃ p7 n7 c7 p9 c9, e = .returned (.agg [.slice p7 n7 c7, .slice p9 s.cells.length c9, .int .i64 ((s.gen : Nat) : Int)].toArray) ∧ SH B w' (osl 40 1 (.slice p9 s.cells.length c9) s.cells.length (s.cells.map (Value.int .i64)) :: frz W0 :: L) := by
 have h := h.oldBlk Go.E.a0 hM
 refine bgn (args := [_]) Tryz.func21 rfl Tryz.ntmps21 rfl ?_
 refine sq <| rg <| sf (al h zc_58) <| ?_
 rintro _ w ⟨b1, rfl, h⟩
 refine xe <| nx <| sq <| sq <| rg <| st (mv rfl) <| st (nc rfl rfl) <| st (fa fo_125_0 rfl) <| st (ld one_23 rfl (h.rbc Go.E.a1 rfl)) <| st (bpe un_23 rfl rfl) <| xe <| nx <| cF rfl <| sk <| nx <| sq <| rg <| st (mv rfl) <| st (nc rfl rfl) <| st (fa fo_125_0 rfl) <| st (ld one_23 rfl (h.rbc Go.E.a1 rfl)) <| cl (ca en_58 rfl) ((arenaState_any a n cn pn pc cc W0 s N0 hA hroom hshort hn hcl (h.fr (.c r2 .n))).mono ?_)
 rintro _ w ⟨p7, n7, c7, p9, c9, rfl, h⟩
 refine ⟨_, rfl, ?_⟩
 refine sf (so h rfl rfl rfl sz_58 rfl (.r (.r (.r .d))) u2) <| ?_
 rintro _ w h
 refine xe <| nx <| rt <| ?_
 refine rr (resC Tryz.results21 rfl (h.b Go.E.a2) row_58) <| ⟨p7, n7, c7, p9, c9, rfl, (h.fr (.c r2 (.c r2 .n))).drop.drop⟩
theorem State_a {n : Nat} {B w : World} {L : List As} (m : MFix) (pk : List Int) (M : Ct.Mach) (h : SH B w (machA m pk M :: L)) (inv : MInv n M) :
  Calls Tryz.prog 21 #[.pointer (some ⟨m.mb, 0, none⟩)] w fun e w' => ∃ p7 n7 c7 p9 c9, e = .returned (.agg [.slice p7 n7 c7, .slice p9 M.st.cells.length c9, .int .i64 ((M.st.gen : Nat) : Int)].toArray) ∧ SH B w' (osl 40 1 (.slice p9 M.st.cells.length c9) M.st.cells.length (M.st.cells.map (Value.int .i64)) :: machA m pk M :: L) := by
 obtain ⟨⟨a, vn, vc, N0⟩, role, vth, vpk, vhi, ov, tb, hx⟩ := h.mx
 have hA := hx.arena
 obtain ⟨xs, hns, _⟩ := hA.nodes
 obtain ⟨pn, cn, hvn⟩ := own_form hns
 obtain ⟨pc, cc, hvc⟩ := own_form hA.cells
 dsimp only at hvn hvc
 subst hvn hvc
 have hr := inv.fin.room
 have hsz : M.st.added.length ≤ 274877906944 ∧ M.st.cells.length ≤ 274877906944 := by unfold Ct.St.size at hr; constructor <;> omega
 refine (schedState_x a M.st.added.length cn pn pc cc w M.st N0 m.mb m.hb M.count vth vpk vhi hA hx.body.blk (inv.fin.Room (by omega)) inv.fin.short hsz.1 hsz.2 (SH.frz w)).mono ?_
 rintro e w' ⟨p7, n7, c7, p9, c9, rfl, h'⟩
 exact ⟨p7, n7, c7, p9, c9, rfl, h.thaw (L' := [_]) h' (fun A hA => by
  obtain rfl : A = _ := by simpa using hA
  exact Whole.osl _ _ _ _ _)⟩
end Go.Proofs.YtjlgchdekhmnnaaGreatDoor
end
section
namespace Go.Proofs.YtjlgchdekhmnnaaGreatDoor
open Go.E
theorem fo_50_2 : fo Tryz.prog 50 2 = some 2 := by kernel_rfl
theorem fv_58_1 : fv Tryz.prog 58 1 = some (1, 1, false) := by kernel_rfl
theorem row_50 : rowN Tryz.prog 50 = some 3 := by kernel_rfl
theorem en_70 : Ents Tryz.prog 70 := enG Tryz.func70 rfl rfl
theorem en_22 : Ents Tryz.prog 22 := enG Tryz.func22 rfl rfl
theorem en_20 : Ents Tryz.prog 20 := enG Tryz.func20 rfl rfl
theorem en_66 : Ents Tryz.prog 66 := enG Tryz.func66 rfl rfl
end Go.Proofs.YtjlgchdekhmnnaaGreatDoor
end
section
open Go Go.RowKit Go.E
namespace Go.Proofs.YtjlgchdekhmnnaaGreatDoor
def recStep (S : Ct.Mach × List Int × List Ct.Ent) (p : Int) : Ct.Mach × List Int × List Ct.Ent :=
 if (nowM S.1 p).isSome = true then
  (if (((nowM S.1 p).getD (0, {})).2.cell : Int) > (S.2.1.length : Int) then ((pickM p S.1).1, (Ct.entryM S.1.st.cells p ((nowM S.1 p).getD (0, {})).2).2, S.2.2 ++ [(Ct.entryM S.1.st.cells p ((nowM S.1 p).getD (0, {})).2).1])
  else ((pickM p S.1).1, (Ct.entryM S.2.1 p ((nowM S.1 p).getD (0, {})).2).2, S.2.2 ++ [(Ct.entryM S.2.1 p ((nowM S.1 p).getD (0, {})).2).1]))
 else ((pickM p S.1).1, S.2.1, S.2.2)
def recM : List Int → Ct.Mach × List Int × List Ct.Ent → Ct.Mach × List Int × List Ct.Ent
 | [], S => S
 | p :: l, S => recM l (recStep S p)
theorem inv_one {n k : Nat} {M : Ct.Mach} (h : MInv (n - k) M) (hk : k < n) : MInv (n - (k + 1) + 1) M := by rw [show n - (k + 1) + 1 = n - k by omega]; exact h
theorem recM_drop {pk : List Int} {k : Nat} {S : Ct.Mach × List Int × List Ct.Ent} (h : k < pk.length) : recM (pk.drop k) S = recM (pk.drop (k + 1)) (recStep S (pk.getD k 0)) := by
 rw [drop_getD h 0]; rfl
def thA (v : Value) (l : List (List Ct.Op)) : As where
 p w O R := (∀ k, ¬ O k) ∧ (∀ k, R k → k < w.heap.size) ∧ ∃ vs : List Value, vs.length = l.length ∧ Reads w 1 v l.length vs ∧ (∀ k, v.ownBlock = some k → R k) ∧ ∀ (i : Nat) (ov : Value) (os : List Ct.Op), vs[i]? = some ov → l[i]? = some os → Reads w 5 ov os.length (os.flatMap opC) ∧ ∀ k, ov.ownBlock = some k → R k
 loc {w w' O R} h hz hk := by
  have rd : ∀ {sz : Nat} {v : Value} {n : Nat} {xs : List Value}, Reads w sz v n xs → (∀ k, v.ownBlock = some k → R k) → Reads w' sz v n xs := fun {sz v n xs} hr hb => by
   refine ⟨hr.1, hr.2.imp id ?_⟩
   rintro ⟨b, off, cap, rfl, g1, g2, g3, g4⟩
   have e := hk b (.inr (hb b rfl))
   exact ⟨b, off, cap, rfl, Nat.lt_of_lt_of_le g1 hz.2.2.2, g2, g3, fun j u hu => (World.cell?_of_block e).trans (g4 j u hu)⟩
  obtain ⟨h1, h2, vs, h3, h4, h5, h6⟩ := h
  exact ⟨h1, fun k hr => Nat.lt_of_lt_of_le (h2 k hr) hz.2.2.2, vs, h3, rd h4 h5, h5, fun i ov os q1 q2 => ⟨rd (h6 i ov os q1 q2).1 (h6 i ov os q1 q2).2, (h6 i ov os q1 q2).2⟩⟩
 dom h hk := hk.elim (fun ho => absurd ho (h.1 _)) (h.2.1 _)
 dis h ho := absurd ho (h.1 _)
theorem row_of {w : World} {sz : Nat} {v : Value} {n : Nat} {xs : List Value} (h : Reads w sz v n xs) : RowAt (fun _ => False) w v n xs := by
 rcases h.2 with ⟨h1, h2⟩ | ⟨b, off, cap, h1, h2, h3, h4, h5⟩
 ·have : xs = [] := List.eq_nil_of_length_eq_zero (by rw [h.1, h2, Nat.zero_mul])
  exact .inl ⟨h1, h2, this⟩
 ·exact .inr ⟨b, off, cap, h1, fun h => h, h2, h3, h4, h5⟩
theorem thA_at {w : World} {v : Value} {l : List (List Ct.Op)} (h : ∃ O R, (thA v l).p w O R) : ThreadsAt (fun _ => False) w v l := by
 obtain ⟨O, R, h1, h2, vs, h3, h4, h5, h6⟩ := h
 exact ⟨vs, h3, row_of h4, fun i ov os q1 q2 => row_of (h6 i ov os q1 q2).1⟩
theorem pkA_at {w : World} {v : Value} {n : Nat} {pk : List Int} (h : ∃ O R, (rsl 1 v n (pk.map (Value.int .i64))).p w O R) : PicksAt (fun _ => False) w v pk := by
 obtain ⟨O, R, h1, _⟩ := h
 have : n = pk.length := by have := h1.1; simp at this; omega
 subst this
 exact row_of h1
set_option maxRecDepth 100000 in
theorem Record_any {B w : World} {L : List As} (mask : Nat) (hmask : mask < 18446744073709551616) (l : List (List Ct.Op)) (pk : List Int) (pt : Option Addr) (cth : Nat) (pp : Option Addr) (cp : Nat) (hc : checkC l pk.length = 0) (hko : KindsOk l) (hpl : pk.length ≤ 400000) (h : SH B w (rsl 1 (.slice pp pk.length cp) pk.length (pk.map (Value.int .i64)) :: thA (.slice pt l.length cth) l :: L)) :
  Calls Tryz.prog 66 #[.agg [.int .u64 ((mask : Nat) : Int), .slice pt l.length cth, .slice pp pk.length cp].toArray] w fun e w' => ∃ p9 n c9, (recM pk (newM mask l, [], [])).2.2.length = n ∧ e = .returned (.tuple [.slice p9 n c9, .int .i64 0].toArray) ∧ SH B w' (osl 75 7 (.slice p9 n c9) n ((recM pk (newM mask l, [], [])).2.2.flatMap entC) :: rsl 1 (.slice pp pk.length cp) pk.length (pk.map (Value.int .i64)) :: thA (.slice pt l.length cth) l :: L) := by
 have inv0 : MInv (pk.length - 0) (newM mask l) := MInv.new hc hko (by omega) hmask
 refine bgn (args := [_]) Tryz.func66 rfl Tryz.ntmps66 rfl ?_
 refine sq <| rg <| sf (bx h rfl rfl) <| ?_
 rintro _ w ⟨b1, rfl, h⟩
 refine st (sg rfl) <| st (sg rfl) <| xe <| nx <| sq <| rg <| st (ldr rfl (rows_all (h.b Go.E.a0)) row_50) <| cl (ca en_20 rfl) ((schedNew_a mask (.slice pt l.length cth) (.slice pp pk.length cp) l pk h (thA_at (h.at_ Go.E.a2)) (pkA_at (h.at_ Go.E.a1)) hc).mono ?_)
 rintro _ w ⟨m, rfl, h⟩
 refine ⟨_, rfl, ?_⟩
 refine st (mv rfl) <| st (xr rfl rfl) <| st (xr rfl rfl) <| st (sg rfl) <| st (sg rfl) <| xe <| nx <| sq <| sq <| rg <| st (mv rfl) <| st (bi rfl rfl rfl) <| xe <| nx <| cF rfl <| sk <| nx <| sq <| rg <| st (sg rfl) <| xe <| nx <| sq <| rg <| st (sg rfl) <| xe <| nx <| sq <| sq <| rg <| st (fa fo_50_2 rfl) <| st (ld one_22 rfl (h.c Go.E.a1 rfl)) <| st (ln sl_22 rfl rfl) <| st (mv rfl) <| xe <| nx <| bk <| ?_
 have h := SH.nil 75 7 h
 have h := SH.nil 40 1 h
 refine lp (α := Nat × Ct.Mach × List Int × List Ct.Ent × Option Addr × Nat × Nat × Option Addr × Nat × Nat) (fun x => (.c 4 (.pointer (some ⟨m.mb, 0, none⟩)) (.c 6 (.slice x.2.2.2.2.1 x.2.2.2.2.2.1 x.2.2.2.2.2.2.1) (.c 7 (.slice x.2.2.2.2.2.2.2.1 x.2.2.2.2.2.2.2.2.1 x.2.2.2.2.2.2.2.2.2) (.c 22 (.slice pp pk.length cp) (.c 23 (.int .i64 ((pk.length : Nat) : Int)) (.c 24 (.int .i64 ((x.1 : Nat) : Int)) .n))))))) (fun x w => SH B w (osl 75 7 (.slice x.2.2.2.2.1 x.2.2.2.2.2.1 x.2.2.2.2.2.2.1) x.2.2.2.2.2.1 (x.2.2.2.1.flatMap entC) :: osl 40 1 (.slice x.2.2.2.2.2.2.2.1 x.2.2.2.2.2.2.2.2.1 x.2.2.2.2.2.2.2.2.2) x.2.2.2.2.2.2.2.2.1 (x.2.2.1.map (Value.int .i64)) :: machA m (pk.map (pickOf l.length)) x.2.1 :: rsl 1 (.slice pp pk.length cp) pk.length (pk.map (Value.int .i64)) :: thA (.slice pt l.length cth) l :: L) ∧ (x.1 ≤ pk.length) ∧ (x.2.2.2.1.length = x.2.2.2.2.2.1) ∧ (x.2.2.2.2.2.1 ≤ x.1) ∧ (x.2.2.1.length = x.2.2.2.2.2.2.2.2.1) ∧ (MInv (pk.length - x.1) x.2.1) ∧ (recM pk (newM mask l, [], []) = recM (pk.drop x.1) (x.2.1, x.2.2.1, x.2.2.2.1))) (fun x => pk.length - x.1) (0, newM mask l, [], [], none, 0, 0, none, 0, 0) ⟨rfl, rfl, rfl, rfl, rfl, rfl, trivial⟩ ⟨((h.fr (.c r3 .n)).drop.fr (.c r1 (.c r0 (.c r0 (.c r0 (.c r0 .n)))))), Nat.zero_le _, rfl, Nat.le_refl _, rfl, inv0, rfl⟩ ?_
 rintro ⟨k, M, cs, es, p3, ne, c3, p4, nc, c4⟩ w ⟨h, hk, hen, hek, hcn, inv, hR⟩
 dsimp only at *
 refine sq <| rg <| st (bi rfl rfl rfl) <| xe <| nx <| sq <| ?_
 rcases Bool.eq_false_or_eq_true (decide ((((k : Nat) : Int) : Int) < ((pk.length : Nat) : Int))) with hd2 | hd2
 ·have hg3 := of_decide_eq_true hd2
  refine ct rfl hd2 <| sk <| nx <| sq <| bk <| sq <| rg <| ?_
  obtain ⟨b4, o5, rfl⟩ := h.fq Go.E.a3 (by omega)
  refine st (ix (j := k) sl_22 sz_3 rfl rfl (by omega)) <| st (ld one_3 rfl ((h.rr Go.E.a3).i (by omega))) <| st (sg rfl) <| xe <| nx <| sq <| rg <| st (mv rfl) <| st (mv rfl) <| cl (ca en_70 rfl) ((Busy_a m (pk.map (pickOf l.length)) M (pk.getD k 0) (h.fr (.c r2 .n))).mono ?_)
  rintro _ w ⟨rfl, h⟩
  refine ⟨_, rfl, ?_⟩
  refine st (mv rfl) <| st (xr rfl rfl) <| st (xr rfl rfl) <| st (xr rfl rfl) <| sf (al h zc_73) <| ?_
  rintro _ w ⟨b6, rfl, h⟩
  refine st (sg rfl) <| sf (so h rfl rfl rfl sz_73 rfl (.r (.r (.r (.r .d)))) u0) <| ?_
  rintro _ w h
  refine st (sg rfl) <| xe <| nx <| sq <| sq <| rg <| st (mv rfl) <| xe <| nx <| ?_
  rcases Bool.eq_false_or_eq_true ((nowM M (pk.getD k 0)).isSome) with hd7 | hd7
  ·refine ct rfl hd7 <| sq <| sq <| rg <| st (fa fo_73_1 rfl) <| st (ld one_41 rfl (h.c Go.E.a0 rfl)) <| st (mv rfl) <| st (ln sl_56 rfl rfl) <| st (bi rfl rfl rfl) <| xe <| nx <| ?_
   rcases Bool.eq_false_or_eq_true (decide (((((nowM M (pk.getD k 0)).getD (0, {})).2).cell : Int) > ((nc : Nat) : Int))) with hd8 | hd8
   ·have hg9 := of_decide_eq_true hd8
    refine ct rfl hd8 <| rg <| st (mv rfl) <| cl (ca en_21 rfl) ((State_a m (pk.map (pickOf l.length)) M (h.fr (.c r1 .n)) inv).mono ?_)
    rintro _ w ⟨p7, n7, c7, p9, c9, rfl, h⟩
    refine ⟨_, rfl, ?_⟩
    refine st (fd fv_58_1 rfl rfl) <| st (sg rfl) <| xe <| nx <| rg <| st (mv rfl) <| st (mv rfl) <| st (mv rfl) <| st (ldr rfl (rows_all (h.b Go.E.a2)) row_73) <| cl (ca en_95 rfl) ((entry_any M.st.cells p9 c9 M.st.cells.length (pk.getD k 0) ((nowM M (pk.getD k 0)).getD (0, {})).2 rfl (h.fr (.c r0 .n))).mono ?_)
    rintro _ w ⟨rfl, h⟩
    refine ⟨_, rfl, ?_⟩
    refine sf (bu (entC ((Ct.entryM M.st.cells (pk.getD k 0) ((nowM M (pk.getD k 0)).getD (0, {})).2).1)) h sl_69 ss_75 rfl (by kernel_rfl) rfl (by decide) (by decide)) <| ?_
    rintro _ w ⟨b10, rfl, h⟩
    refine sf (ap h sl_69 rfl ss_75 rfl (by decide) rfl rfl (fun _ => u4) (h.ro Go.E.a0) (fun u hu => List.all_eq_true.1 (entC_one _) u hu) rfl (join_rows _ _) (by unfold maxLen; omega) (by omega)) <| ?_
    rintro _ w ⟨p11, c12, rfl, h⟩
    refine st (sg rfl) <| xe <| nx <| rg <| st (mv rfl) <| st (mv rfl) <| cl (ca en_22 rfl) ((Pick_a (n := pk.length - (k + 1)) m (pk.map (pickOf l.length)) M (pk.getD k 0) (h.fr (.c r2 .n)) (inv_one inv (by omega))).mono ?_)
    rintro _ w ⟨rfl, h⟩
    refine ⟨_, rfl, ?_⟩
    refine xe <| bn <| nx <| rg <| st (bw rfl rfl (wadd (c := ((k + 1 : Nat) : Int)) (by omega) (by omega) (by omega))) <| st (mv rfl) <| xe <| nx <| ?_
    have inv2 := MInv.pick (n := pk.length - (k + 1)) (inv_one inv (by omega)) (pk.getD k 0)
    have hst : recStep (M, cs, es) (pk.getD k 0) = ((pickM (pk.getD k 0) M).1, (Ct.entryM M.st.cells (pk.getD k 0) ((nowM M (pk.getD k 0)).getD (0, {})).2).2, es ++ [(Ct.entryM M.st.cells (pk.getD k 0) ((nowM M (pk.getD k 0)).getD (0, {})).2).1]) := by unfold recStep; simp only []; rw [if_pos hd7, if_pos (by rw [hcn]; simpa using hd8)]
    exact ⟨(k + 1, (pickM (pk.getD k 0) M).1, (Ct.entryM M.st.cells (pk.getD k 0) ((nowM M (pk.getD k 0)).getD (0, {})).2).2, es ++ [(Ct.entryM M.st.cells (pk.getD k 0) ((nowM M (pk.getD k 0)).getD (0, {})).2).1], p11, ne + 1, c12, p9, M.st.cells.length, c9), ⟨rfl, rfl, rfl, rfl, rfl, rfl, trivial⟩, ⟨((h.fr (.c r1 (.c r2 (.c r3 .n)))).drop.drop.drop.fr (.c r2 (.c r1 (.c r0 (.c r0 (.c r0 .n)))))), by (try dsimp only); omega, by simp [hen], by (try dsimp only); omega, by rw [Ct.entryM_len], inv2, by rw [hR, recM_drop (by omega), hst]⟩, by (try dsimp only); omega⟩
   ·have hg13 := of_decide_eq_false hd8
    refine cf rfl hd8 <| sk <| nx <| rg <| st (mv rfl) <| st (mv rfl) <| st (mv rfl) <| st (ldr rfl (rows_all (h.b Go.E.a0)) row_73) <| cl (ca en_95 rfl) ((entry_any cs p4 c4 nc (pk.getD k 0) ((nowM M (pk.getD k 0)).getD (0, {})).2 hcn (h.fr (.c r3 .n))).mono ?_)
    rintro _ w ⟨rfl, h⟩
    refine ⟨_, rfl, ?_⟩
    refine sf (bu (entC ((Ct.entryM cs (pk.getD k 0) ((nowM M (pk.getD k 0)).getD (0, {})).2).1)) h sl_69 ss_75 rfl (by kernel_rfl) rfl (by decide) (by decide)) <| ?_
    rintro _ w ⟨b14, rfl, h⟩
    refine sf (ap h sl_69 rfl ss_75 rfl (by decide) rfl rfl (fun _ => u4) (h.ro Go.E.a0) (fun u hu => List.all_eq_true.1 (entC_one _) u hu) rfl (join_rows _ _) (by unfold maxLen; omega) (by omega)) <| ?_
    rintro _ w ⟨p15, c16, rfl, h⟩
    refine st (sg rfl) <| xe <| nx <| rg <| st (mv rfl) <| st (mv rfl) <| cl (ca en_22 rfl) ((Pick_a (n := pk.length - (k + 1)) m (pk.map (pickOf l.length)) M (pk.getD k 0) (h.fr (.c r3 .n)) (inv_one inv (by omega))).mono ?_)
    rintro _ w ⟨rfl, h⟩
    refine ⟨_, rfl, ?_⟩
    refine xe <| bn <| nx <| rg <| st (bw rfl rfl (wadd (c := ((k + 1 : Nat) : Int)) (by omega) (by omega) (by omega))) <| st (mv rfl) <| xe <| nx <| ?_
    have inv2 := MInv.pick (n := pk.length - (k + 1)) (inv_one inv (by omega)) (pk.getD k 0)
    have hst : recStep (M, cs, es) (pk.getD k 0) = ((pickM (pk.getD k 0) M).1, (Ct.entryM cs (pk.getD k 0) ((nowM M (pk.getD k 0)).getD (0, {})).2).2, es ++ [(Ct.entryM cs (pk.getD k 0) ((nowM M (pk.getD k 0)).getD (0, {})).2).1]) := by unfold recStep; simp only []; rw [if_pos hd7, if_neg (by rw [hcn]; simpa using hd8)]
    exact ⟨(k + 1, (pickM (pk.getD k 0) M).1, (Ct.entryM cs (pk.getD k 0) ((nowM M (pk.getD k 0)).getD (0, {})).2).2, es ++ [(Ct.entryM cs (pk.getD k 0) ((nowM M (pk.getD k 0)).getD (0, {})).2).1], p15, ne + 1, c16, p4, nc, c4), ⟨rfl, rfl, rfl, rfl, rfl, rfl, trivial⟩, ⟨((h.fr (.c r1 (.c r2 .n))).drop.drop.fr (.c r2 (.c r1 (.c r0 (.c r0 (.c r0 .n)))))), by (try dsimp only); omega, by simp [hen], by (try dsimp only); omega, by rw [Ct.entryM_len]; exact hcn, inv2, by rw [hR, recM_drop (by omega), hst]⟩, by (try dsimp only); omega⟩
  ·refine cf rfl hd7 <| sk <| nx <| rg <| st (mv rfl) <| st (mv rfl) <| cl (ca en_22 rfl) ((Pick_a (n := pk.length - (k + 1)) m (pk.map (pickOf l.length)) M (pk.getD k 0) (h.fr (.c r1 .n)) (inv_one inv (by omega))).mono ?_)
   rintro _ w ⟨rfl, h⟩
   refine ⟨_, rfl, ?_⟩
   refine xe <| bn <| nx <| rg <| st (bw rfl rfl (wadd (c := ((k + 1 : Nat) : Int)) (by omega) (by omega) (by omega))) <| st (mv rfl) <| xe <| nx <| ?_
   have inv2 := MInv.pick (n := pk.length - (k + 1)) (inv_one inv (by omega)) (pk.getD k 0)
   have hst : recStep (M, cs, es) (pk.getD k 0) = ((pickM (pk.getD k 0) M).1, cs, es) := by unfold recStep; simp only []; rw [if_neg (by rw [hd7]; decide)]
   exact ⟨(k + 1, (pickM (pk.getD k 0) M).1, cs, es, p3, ne, c3, p4, nc, c4), ⟨rfl, rfl, rfl, rfl, rfl, rfl, trivial⟩, ⟨((h.fr (.c r1 .n)).drop.fr (.c r1 (.c r1 (.c r0 (.c r0 (.c r0 .n)))))), by (try dsimp only); omega, hen, by (try dsimp only); omega, hcn, inv2, by rw [hR, recM_drop (by omega), hst]⟩, by (try dsimp only); omega⟩
 ·have hg17 := of_decide_eq_false hd2
  refine cf rfl hd2 <| xt <| tx <| tx <| be <| nx <| sq <| rg <| st (mv rfl) <| st (sg rfl) <| st (sg rfl) <| xe <| nx <| rt <| ?_
  have hR : recM pk (newM mask l, [], []) = (M, cs, es) := by rw [hR, List.drop_of_length_le (by omega)]; rfl
  refine rr (res2 Tryz.results66 rfl rfl) <| ?_
  rw [hR]; exact ⟨_, _, _, hen, rfl, (h.fr (.c r1 (.c r1 .n))).drop.drop⟩
end Go.Proofs.YtjlgchdekhmnnaaGreatDoor
end
section
namespace Go.Proofs.YtjlgchdekhmnnaaGreatDoor
open Go.E
theorem bd_35 : bdn Tryz.prog 35 = some ([.int .i64 0, .int .i64 0, .string .empty, .int .u64 0, .int .u64 0], [(0, 1), (1, 1), (2, 1), (3, 1), (4, 1)]) := by kernel_rfl
theorem bd_50 : bdn Tryz.prog 50 = some ([.int .u64 0, .slice none 0 0, .slice none 0 0], [(0, 1), (1, 1), (2, 1)]) := by kernel_rfl
theorem eq_73 : eqf Tryz.prog 73 = some [.i .i64, .i .i64, .i .i64, .i .i64] := by kernel_rfl
theorem sl_119 : Tryz.prog.underlying 119 = some (.slice 35) := by kernel_rfl
theorem sl_48 : Tryz.prog.underlying 48 = some (.slice 119) := by kernel_rfl
theorem ss_119 : sizes Tryz.prog 119 = some (.slice none 0 0, 1, 24) := by kernel_rfl
theorem ss_35 : sizes Tryz.prog 35 = some (.agg [.int .i64 0, .int .i64 0, .string .empty, .int .u64 0, .int .u64 0].toArray, 5, 48) := by kernel_rfl
theorem en_37 : Ents Tryz.prog 37 := enG Tryz.func37 rfl rfl
end Go.Proofs.YtjlgchdekhmnnaaGreatDoor
end
