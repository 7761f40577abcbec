/- Parts of a proof: Mb, Ts, Tyu. -/
import Derived.Test.YtjlgchdekhmnnaaGreatDoorTS04
import Derived.Test.YtjlgchdekhmnnaaGreatDoorM39
import Derived.Test.YtjlgchdekhmnnaaGreatDoorTS05
set_option linter.unusedVariables false
set_option linter.unusedSimpArgs false
section
open Go Go.RowKit Go.E
namespace Go.Proofs.YtjlgchdekhmnnaaGreatDoor
def KindsOk (l : List (List Ct.Op)) : Prop := ∀ os ∈ l, ∀ o ∈ os, KindOk o ∧ (o.kind = 0 ∨ o.handle = 0)
theorem MInv.new {mask : Nat} {l : List (List Ct.Op)} {np n : Nat} (hc : checkC l np = 0) (hk : KindsOk l) (hn : n ≤ 400000) (hm : mask < 18446744073709551616) : MInv n (newM mask l) := by
 obtain ⟨h1, h2, h3⟩ := checkC_ok hc
 refine ⟨?_, by show 0 + n ≤ _; omega, by show 0 + 2 * n ≤ _; omega, by simp [newM, h1], fun i t hi => ?_, hm, ⟨_, rfl⟩⟩
 ·have hf : Fin (61000 + 100 * n + 6) ({} : Ct.St) := ⟨by simp [Ct.St.size]; omega, fun n hn => by cases hn⟩
  exact Fin.create hf
 ·replace hi : (l.map newTh)[i]? = some t := hi
  rw [List.getElem?_map] at hi
  cases ho : l[i]? with
  | none => rw [ho] at hi; cases hi
  | some os =>
   rw [ho] at hi; simp at hi; subst hi
   refine ⟨h3 os (List.mem_of_getElem? ho), hk os (List.mem_of_getElem? ho), fun c hc => (by cases hc), fun j h4 h5 _ => ?_, fun h => (by cases h)⟩
   rfl
theorem schedNew_a {B w : World} {L : List As} (mask : Nat) (vths vpk : Value) (l : List (List Ct.Op)) (pk : List Int) (h : SH B w L) (h1 : ThreadsAt (fun _ => False) w vths l) (h2 : PicksAt (fun _ => False) w vpk pk) (hc : checkC l pk.length = 0) :
  Calls Tryz.prog 20 #[.agg #[.int .u64 (mask : Nat), vths, vpk]] w fun e w' => ∃ m : MFix, e = .returned (.tuple #[.pointer (some ⟨m.mb, 0, none⟩), .int .i64 0]) ∧ SH B w' (machA m (pk.map (pickOf l.length)) (newM mask l) :: L) := by
 refine (schedNew_any (fun _ => False) w mask vths vpk l pk h1 h2).mono ?_
 intro e w' he
 unfold NewMRes at he
 rw [if_pos hc] at he
 obtain ⟨m, vpk', rfl, _, ⟨g, role, vth, vhi, ov, tb, hx, hB, hB2⟩, hk, hle⟩ := he
 exact ⟨m, rfl, h.mach hk hx hB hB2⟩
theorem accC_X (c : Ct.Code) : accC c = acC (accX c) := by cases c <;> rfl
theorem Busy_a {B w : World} {L : List As} (m : MFix) (pk : List Int) (M : Ct.Mach) (th : Int) (h : SH B w (machA m pk M :: L)) :
  Calls Tryz.prog 70 #[.pointer (some ⟨m.mb, 0, none⟩), .int .i64 th] w fun e w' => e = .returned (.tuple [.int .i64 (((nowM M th).getD (0, {})).1 : Nat), .agg (acC ((nowM M th).getD (0, {})).2).toArray, .bool (nowM M th).isSome].toArray) ∧ SH B w' (machA m pk M :: L) := by
 obtain ⟨g, role, vth, vpk, vhi, ov, tb, h1⟩ := h.mx
 have idle : Idle M th → nowM M th = none → Calls Tryz.prog 70 #[.pointer (some ⟨m.mb, 0, none⟩), .int .i64 th] w fun e w' => e = .returned (.tuple [.int .i64 (((nowM M th).getD (0, {})).1 : Nat), .agg (acC ((nowM M th).getD (0, {})).2).toArray, .bool (nowM M th).isSome].toArray) ∧ SH B w' (machA m pk M :: L) := fun hi e => by
  refine (busy_idle g w m role vth vpk vhi ov tb pk M th h1.body hi).mono ?_
  rintro e' w' ⟨rfl, hb⟩
  rw [e]
  exact ⟨rfl, h.bel hb⟩
 by_cases h0 : th < 0
 ·exact idle (.inl h0) (by unfold nowM; rw [if_pos h0])
 ·obtain ⟨i, rfl⟩ := Int.eq_ofNat_of_zero_le (Int.not_lt.1 h0)
  cases hi : M.threads[i]? with
  | none =>
   have hl := List.getElem?_eq_none_iff.1 hi
   exact idle (.inr (.inl (by omega))) (by unfold nowM; rw [if_neg h0]; simp [hi])
  | some t =>
   cases hc : t.present with
   | none => exact idle (.inr (.inr ⟨i, t, rfl, hi, hc⟩)) (by unfold nowM; rw [if_neg h0]; simp [hi, hc])
   | some c =>
    refine (busy_some g w m role vth vpk vhi ov tb pk M i t c h1.body hi hc).mono ?_
    rintro e' w' ⟨rfl, hb⟩
    have e : nowM M (i : Nat) = some (t.index, accX c) := by unfold nowM; rw [if_neg h0]; simp [hi, hc]
    rw [e, accC_X]
    exact ⟨rfl, h.bel hb⟩
def frz (W0 : World) : As where
 p w O R := Below W0.heap.size W0 w ∧ (∀ k, ¬ O k) ∧ ∀ k, R k ↔ k < W0.heap.size
 loc {w w' O R} h hz hk := ⟨⟨hz.1.trans h.1.os, hz.2.1.trans h.1.tape, hz.2.2.1.trans h.1.output, Nat.le_trans h.1.size hz.2.2.2, fun k hl => (hk k (.inr ((h.2.2 k).2 hl))).trans (h.1.block k hl)⟩, h.2⟩
 dom {w O R k} h hk := hk.elim (fun ho => absurd ho (h.2.1 k)) (fun hr => Nat.lt_of_lt_of_le ((h.2.2 k).1 hr) h.1.size)
 dis {w O R k} h ho := absurd ho (h.2.1 k)
end Go.Proofs.YtjlgchdekhmnnaaGreatDoor
namespace Go.E
open Go.Proofs.YtjlgchdekhmnnaaGreatDoor Go.RowKit
theorem SH.frz (w : World) : SH w w [frz w] :=
 ⟨⟨rfl, rfl, rfl⟩, fun _ _ => False, fun _ k => k < w.heap.size, fun i a ha => by
  cases i with
  | zero => simp only [List.getElem?_cons_zero, Option.some.injEq] at ha; subst ha; exact ⟨Below.refl _ _, fun _ h => h, fun _ => Iff.rfl⟩
  | succ i => simp at ha, fun i j k hij hi hj => by simp at hi hj; omega⟩
end Go.E
namespace Go.Proofs.YtjlgchdekhmnnaaGreatDoor
def Whole (A : As) : Prop := ∀ w O R, A.p w O R → ∀ k, ¬ R k
theorem Whole.osl (e : TypeId) (sz : Nat) (v : Value) (n : Nat) (xs : List Value) : Whole (osl e sz v n xs) := fun w O R h => h.2.2
theorem Whole.bl (b : Nat) (cs : List Value) (t : TypeId) : Whole (bl b cs t) := fun w O R h => h.2.2
end Go.Proofs.YtjlgchdekhmnnaaGreatDoor
namespace Go.E
open Go.Proofs.YtjlgchdekhmnnaaGreatDoor Go.RowKit
theorem SH.thaw {B w w' : World} {L : List As} (h : SH B w L) : ∀ {L' : List As}, SH w w' (L' ++ [Go.Proofs.YtjlgchdekhmnnaaGreatDoor.frz w]) → (∀ A ∈ L', Whole A) → SH B w' (L' ++ L) := by
 intro L' h' hw
 obtain ⟨hs, O, R, h1, h2⟩ := h
 obtain ⟨hs', O', R', h1', h2'⟩ := h'
 have hlt : ∀ i k, i < L.length → O i k ∨ R i k → k < w.heap.size := fun i k hi hk => L[i].dom (h1 i _ (List.getElem?_eq_getElem hi)) hk
 have hf := h1' L'.length (Go.Proofs.YtjlgchdekhmnnaaGreatDoor.frz w) (by rw [List.getElem?_append_right (Nat.le_refl _)]; simp)
 have hO : ∀ i k, i < L'.length → O' i k → w.heap.size ≤ k := fun i k hi ho => by
  have := (h2' i L'.length k (by omega) (by simp; omega) (by simp) ho).2
  rw [hf.2.2] at this; omega
 have hR : ∀ i k, i < L'.length → ¬ R' i k := fun i k hi => hw _ (List.getElem_mem hi) w' _ _ (h1' i _ (by rw [List.getElem?_append_left hi, List.getElem?_eq_getElem hi])) k
 refine ⟨⟨hf.1.os.trans hs.1, hf.1.tape.trans hs.2.1, hf.1.output.trans hs.2.2⟩, fun i => if i < L'.length then O' i else O (i - L'.length), fun i => if i < L'.length then R' i else R (i - L'.length), fun i a ha => ?_, fun i j k hij hi hj => ?_⟩
 ·by_cases hi : i < L'.length
  ·dsimp only; rw [if_pos hi, if_pos hi]
   refine h1' i a ?_
   rw [List.getElem?_append_left hi] at ha ⊢; exact ha
  ·dsimp only; rw [if_neg hi, if_neg hi]
   rw [List.getElem?_append_right (by omega)] at ha
   have hl := (List.getElem?_eq_some_iff.1 ha).1
   exact a.loc (h1 _ a ha) ⟨hf.1.os, hf.1.tape, hf.1.output, hf.1.size⟩ (fun k hk => hf.1.block k (hlt _ k hl hk))
 ·rw [List.length_append] at hi hj
  dsimp only
  by_cases a : i < L'.length <;> by_cases b : j < L'.length
  ·rw [if_pos a, if_pos b, if_pos b]; exact h2' i j k hij (by simp; omega) (by simp; omega)
  ·rw [if_pos a, if_neg b, if_neg b]
   intro ho
   have := hO i k a ho
   exact ⟨fun hx => by have := hlt _ k (by omega) (.inl hx); omega, fun hx => by have := hlt _ k (by omega) (.inr hx); omega⟩
  ·rw [if_neg a, if_pos b, if_pos b]
   intro ho
   have := hlt _ k (by omega) (.inl ho)
   exact ⟨fun hx => by have := hO j k b hx; omega, hR j k b⟩
  ·rw [if_neg a, if_neg b, if_neg b]
   exact h2 _ _ k (by omega) (by omega) (by omega)
end Go.E
namespace Go.Proofs.YtjlgchdekhmnnaaGreatDoor
end Go.Proofs.YtjlgchdekhmnnaaGreatDoor
namespace Go.E
open Go.Proofs.YtjlgchdekhmnnaaGreatDoor Go.RowKit
theorem SH.old {B w W0 : World} {L : List As} (h : SH B w L) (m' : At L (Go.Proofs.YtjlgchdekhmnnaaGreatDoor.frz W0)) : Below W0.heap.size W0 w := by
 obtain ⟨_, _, h1⟩ := h.at_ m'; exact h1.1
end Go.E
namespace Go.Proofs.YtjlgchdekhmnnaaGreatDoor
end Go.Proofs.YtjlgchdekhmnnaaGreatDoor
namespace Go.E
open Go.Proofs.YtjlgchdekhmnnaaGreatDoor Go.RowKit
theorem SH.oldRow {B w W0 : World} {L : List As} (h : SH B w L) (m' : At L (Go.Proofs.YtjlgchdekhmnnaaGreatDoor.frz W0)) {base : Nat} {e : TypeId} {sz n : Nat} {v : Value} {xs : List Value} (hr : W0.ownsRow base e sz v n xs) : SH B w (rsl sz v n xs :: L) := h.dup m' fun O R hA => by
 refine ⟨fun k => v.ownBlock = some k, ⟨?_, fun _ h => h, fun _ => Iff.rfl⟩, fun k hk => (hA.2.2 k).2 (hr.lt k hk).2⟩
 refine ⟨hr.1, ?_⟩
 have hh := hr
 rcases hr.2 with h1 | ⟨b, cap, cur, rfl, hb, hg, hc, hm, rest⟩
 ·exact .inl h1
 ·have hl : b < W0.heap.size := (Array.getElem?_eq_some_iff.1 hg).1
  refine .inr ⟨b, 0, cap, rfl, Nat.lt_of_lt_of_le hl hA.1.size, hc, hm, fun j u hu => ?_⟩
  rw [Nat.zero_add]
  have := hh.cellAt j (by have := (List.getElem?_eq_some_iff.1 hu).1; have := hh.1; omega)
  rw [hu] at this
  exact (World.cell?_of_block (hA.1.block b hl)).trans this
end Go.E
namespace Go.Proofs.YtjlgchdekhmnnaaGreatDoor
end Go.Proofs.YtjlgchdekhmnnaaGreatDoor
namespace Go.E
open Go.Proofs.YtjlgchdekhmnnaaGreatDoor Go.RowKit
theorem SH.oldBlk {B w W0 : World} {L : List As} (h : SH B w L) (m' : At L (Go.Proofs.YtjlgchdekhmnnaaGreatDoor.frz W0)) {b : Nat} {cs : List Value} {t : TypeId} (hr : W0.heap[b]? = some (.cells cs.toArray t (0, 0))) : SH B w (rb b cs t :: L) := h.dup m' fun O R hA =>
 have hl : b < W0.heap.size := (Array.getElem?_eq_some_iff.1 hr).1
 ⟨fun k => k = b, ⟨(hA.1.block b hl).trans hr, fun _ h => h, fun _ => Iff.rfl⟩, fun k hk => (hA.2.2 k).2 (hk ▸ hl)⟩
end Go.E
namespace Go.Proofs.YtjlgchdekhmnnaaGreatDoor
end Go.Proofs.YtjlgchdekhmnnaaGreatDoor
end
section
namespace Go.Proofs.YtjlgchdekhmnnaaGreatDoor
open Go.RowKit Go.E
theorem aeqE_iff {a b : Ct.Ent} : aeq (entC a) (entC b) = true ↔ a = b := by
 obtain ⟨t, ⟨k, c, o, n⟩, l, s⟩ := a
 obtain ⟨t', ⟨k', c', o', n'⟩, l', s'⟩ := b
 simp [aeq, entC, veq, and_assoc]
theorem entry_any {B w : World} {L : List As} (xs : List Int) (p : Option Addr) (c n : Nat) (th : Int) (a : Ct.Acc) (hn : xs.length = n) (h : SH B w (osl 40 1 (.slice p n c) n (xs.map (Value.int .i64)) :: L)) :
  Calls Tryz.prog 95 #[.slice p n c, .int .i64 th, .agg (acC a).toArray] w fun e w' => e = .returned (.agg (entC (Ct.entryM xs th a).1).toArray) ∧ SH B w' (osl 40 1 (.slice p n c) n ((Ct.entryM xs th a).2.map (Value.int .i64)) :: L) := by
 subst hn
 cases hx : Ct.existsC xs.length a.cell with
 | false => exact entry_0 xs p c th a h hx
 | true =>
  have hx' : 1 ≤ a.cell ∧ a.cell ≤ xs.length := by simpa [Ct.existsC] using hx
  obtain ⟨b, rfl⟩ := h.fp a0 (by omega)
  by_cases hk : a.kind = 1
  ·exact entry_1 xs b c th a h hx hk
  ·by_cases hq : xs.getD (a.cell.toNat - 1) 0 = a.old
   ·exact entry_2 xs b c th a h hx hk hq
   ·exact entry_3 xs b c th a h hx hk hq
set_option maxRecDepth 100000 in
theorem cloneR_any {B w : World} {L : List As} (l : List Int) (p : Option Addr) (c : Nat) (hl : l.length ≤ 274877906944) (h : SH B w (rsl 1 (.slice p l.length c) l.length (l.map (Value.int .i64)) :: L)) :
  Calls Tryz.prog 65 #[.slice p l.length c] w fun e w' => ∃ v, e = .returned v ∧ SH B w' (osl 40 1 v l.length (l.map (Value.int .i64)) :: rsl 1 (.slice p l.length c) l.length (l.map (Value.int .i64)) :: L) := by
 refine bgn (args := [_]) Tryz.func65 rfl Tryz.ntmps65 rfl ?_
 refine sq <| rg <| st (sg rfl) <| xe <| nx <| sq <| sq <| rg <| st (mv rfl) <| st (bnl sl_56 rfl rfl) <| xe <| nx <| ?_
 rcases Bool.eq_false_or_eq_true ((p).isNone) with hd1 | hd1
 ·refine ct rfl hd1 <| sq <| rg <| st (sg rfl) <| xe <| nx <| rt <| tr <| ?_
  have h0 := h.rz a0 hd1
  obtain rfl : l = [] := List.eq_nil_of_length_eq_zero h0
  refine rr (res1 Tryz.results65 rfl) <| ?_
  exact ⟨_, rfl, SH.nil _ _ h⟩
 ·obtain ⟨b9, o9, rfl⟩ := h.rp a0 hd1
  refine cf rfl hd1 <| sk <| nx <| sq <| rg <| sf (bu [] h sl_56 ss_40 rfl (by kernel_rfl) rfl (by decide) (by decide)) <| ?_
  rintro _ w ⟨b2, rfl, h⟩
  refine st (mv rfl) <| sf (ap h sl_56 rfl ss_40 rfl (by decide) rfl rfl (fun _ => u0) (h.rr a1) (ones_ints _) (Nat.zero_add _) (List.nil_append _) (by unfold maxLen; omega) (by omega)) <| ?_
  rintro _ w ⟨p3, c4, rfl, h⟩
  refine st (sg rfl) <| xe <| nx <| rt <| ?_
  refine rr (res1 Tryz.results65 rfl) <| ⟨_, rfl, h⟩
set_option maxRecDepth 100000 in
theorem execute_any {B w : World} {L : List As} (xs : List Int) (n : Nat) (hn : xs.length = n) (pc : Option Addr) (cc : Nat) (le : List Ct.Ent) (pe : Option Addr) (ce : Nat) (hle : le.length ≤ 1000000) (h : SH B w (osl 40 1 (.slice pc n cc) n (xs.map (Value.int .i64)) :: rsl 7 (.slice pe le.length ce) le.length (le.flatMap entC) :: L)) :
  Calls Tryz.prog 64 #[.slice pc n cc, .slice pe le.length ce] w fun e w' => e = .returned (.tuple [.int .i64 (((Ct.executeF xs le 0).1 : Nat) : Int), .int .i64 (Ct.executeF xs le 0).2.1].toArray) ∧ SH B w' (osl 40 1 (.slice pc n cc) n ((Ct.executeF xs le 0).2.2.map (Value.int .i64)) :: rsl 7 (.slice pe le.length ce) le.length (le.flatMap entC) :: L) := by
 refine bgn (args := [_, _]) Tryz.func64 rfl Tryz.ntmps64 rfl ?_
 refine sq <| rg <| st (sg rfl) <| st (sg rfl) <| xe <| nx <| sq <| sq <| rg <| st (mv rfl) <| st (ln sl_69 rfl rfl) <| st (mv rfl) <| xe <| nx <| bk <| ?_
 refine lp (α := Nat × List Int) (fun x => (.c 0 (.slice pc n cc) (.c 1 (.slice pe le.length ce) (.c 9 (.slice pe le.length ce) (.c 10 (.int .i64 ((le.length : Nat) : Int)) (.c 11 (.int .i64 ((x.1 : Nat) : Int)) .n)))))) (fun x w => SH B w (osl 40 1 (.slice pc n cc) n (x.2.map (Value.int .i64)) :: rsl 7 (.slice pe le.length ce) le.length (le.flatMap entC) :: L) ∧ (x.1 ≤ le.length) ∧ (x.2.length = n) ∧ (Ct.executeF xs le 0 = Ct.executeF x.2 (le.drop x.1) x.1)) (fun x => le.length - x.1) (0, xs) ⟨rfl, rfl, rfl, rfl, rfl, trivial⟩ ⟨h, Nat.zero_le _, hn, rfl⟩ ?_
 rintro ⟨k, ys⟩ w ⟨h, hk, hxl, hE⟩
 dsimp only at *
 refine sq <| rg <| st (bi rfl rfl rfl) <| xe <| nx <| sq <| ?_
 rcases Bool.eq_false_or_eq_true (decide ((((k : Nat) : Int) : Int) < ((le.length : Nat) : Int))) with hd1 | hd1
 ·have hg2 := of_decide_eq_true hd1
  refine ct rfl hd1 <| sk <| nx <| sq <| bk <| sq <| rg <| st (mv rfl) <| ?_
  obtain ⟨b3, o4, rfl⟩ := h.fq a1 (by omega)
  refine st (ix (j := k) sl_69 sz_75 rfl rfl (by omega)) <| st (ldr rfl ((h.rr a1).x entC_len (by decide) (by omega) {}) row_75) <| sf (al h zc_75) <| ?_
  rintro _ w ⟨b5, rfl, h⟩
  refine st (sg rfl) <| sf (so h rfl rfl rfl sz_75 rfl (.r (.r (.r (.r (.r (.r (.r .d))))))) u0) <| ?_
  rintro _ w h
  refine xe <| nx <| sq <| rg <| st (fa fo_75_1 rfl) <| st (fa fo_73_0 rfl) <| st (ld one_3 rfl (h.c a0 rfl)) <| st (sg rfl) <| xe <| nx <| sq <| sq <| rg <| st (mv rfl) <| st (bi rfl rfl rfl) <| st (mv rfl) <| ?_
  rcases Bool.eq_false_or_eq_true (((le.getD k {}).acc.kind : Int) != 1) with hd6 | hd6
  ·have hg7 := bne_iff_ne.1 hd6
   refine gT rfl rfl hd6 <| st (mv rfl) <| gT rfl rfl hd6 <| st (bi rfl rfl rfl) <| st (pT rfl hd6 rfl) <| st (mv rfl) <| ?_
   rcases Bool.eq_false_or_eq_true (((le.getD k {}).acc.kind : Int) != 2) with hd8 | hd8
   ·have hg9 := bne_iff_ne.1 hd8
    refine gF rfl rfl hd8 <| gF rfl rfl hd8 <| gF rfl rfl hd8 <| gF rfl rfl hd8 <| gF rfl rfl hd8 <| gF rfl rfl hd8 <| st (pT rfl hd8 rfl) <| xe <| nx <| cT rfl <| sq <| rg <| st (mv rfl) <| st (sg rfl) <| st (sg rfl) <| xe <| nx <| rt <| tr <| bt <| tr <| tr <| bt <| tr <| ?_
    have hb : Ct.badE ys.length (le.getD k {}) = true := by unfold Ct.badE; rw [hxl, hd6, hd8]; rfl
    have hR := hE.trans (Ct.ex_bad (by omega) hb)
    refine rr (res2 Tryz.results64 rfl rfl) <| ?_
    rw [hR]; exact ⟨rfl, h.drop⟩
   ·have hg10 := eq_of_bneF hd8
    refine gT rfl rfl hd8 <| st (mv rfl) <| gT rfl rfl hd8 <| st (fa fo_75_1 rfl) <| gT rfl rfl hd8 <| st (fa fo_73_1 rfl) <| gT rfl rfl hd8 <| st (ld one_41 rfl (h.c a0 rfl)) <| gT rfl rfl hd8 <| cl (ca en_94 rfl) ((exists_any pc n cc ((le.getD k {}).acc.cell)).mono ?_)
    rintro _ _ ⟨rfl, rfl⟩
    refine ⟨_, rfl, ?_⟩
    refine gT rfl rfl hd8 <| st (nt rfl) <| st (pF rfl hd8 rfl) <| xe <| nx <| ?_
    rcases Bool.eq_false_or_eq_true (!(Ct.existsC n ((le.getD k {}).acc.cell))) with hd11 | hd11
    ·have hd12 : (Ct.existsC n ((le.getD k {}).acc.cell)) = false := by simpa using hd11
     refine ct rfl hd11 <| sq <| rg <| st (mv rfl) <| st (sg rfl) <| st (sg rfl) <| xe <| nx <| rt <| tr <| bt <| tr <| tr <| bt <| tr <| ?_
     have hb : Ct.badE ys.length (le.getD k {}) = true := by unfold Ct.badE; rw [hxl, hd6, hd8, hd12]; rfl
     have hR := hE.trans (Ct.ex_bad (by omega) hb)
     refine rr (res2 Tryz.results64 rfl rfl) <| ?_
     rw [hR]; exact ⟨rfl, h.drop⟩
    ·have hd13 : (Ct.existsC n ((le.getD k {}).acc.cell)) = true := by simpa using hd11
     refine cf rfl hd11 <| sk <| nx <| sq <| drH [1, 3, 5, 7, 9, 13, 10, 15] (by kernel_rfl) h (.c r0 .n) fun w h => tk (fun W H => mv rfl) <| tk (fun W H => fa fo_75_0 rfl) <| tk (fun W H => ld one_3 rfl (H.c a0 rfl)) <| tk (fun W H => fa fo_75_1 rfl) <| tk (fun W H => ldr (cs := [.int .i64 ((le.getD k {}).acc.kind), .int .i64 ((le.getD k {}).acc.cell), .int .i64 ((le.getD k {}).acc.old), .int .i64 ((le.getD k {}).acc.new)]) rfl (rows_of (H.b a0) 1 rfl) row_73) <| tk (fun W H => ldr rfl (rows_all (H.b a0)) row_75) <| cs (ca en_95 rfl) ((entry_any ys pc cc n ((le.getD k {}).thread) (le.getD k {}).acc hxl (h.fr (.c r1 .n))).mono ?_)
     rintro _ w ⟨rfl, h⟩
     refine ⟨_, rfl, h.hs (.c r1 .n), ?_⟩
     refine tk (fun W H => bne_ eq_75 rfl rfl rfl rfl) <| xz <| nx <| ?_
     rcases Bool.eq_false_or_eq_true (!aeq (entC ((Ct.entryM ys (le.getD k {}).thread (le.getD k {}).acc).1)) (entC (le.getD k {}))) with hd14 | hd14
     ·have hd15 : (aeq (entC ((Ct.entryM ys (le.getD k {}).thread (le.getD k {}).acc).1)) (entC (le.getD k {}))) = false := by simpa using hd14
      refine ct rfl hd14 <| sq <| rg <| st (mv rfl) <| st (sg rfl) <| st (sg rfl) <| xe <| nx <| rt <| bt <| tr <| tr <| bt <| tr <| ?_
      have hb : Ct.badE ys.length (le.getD k {}) = false := by unfold Ct.badE; rw [hxl, hd6, hd8, hd13]; rfl
      have hq : (Ct.entryM ys (le.getD k {}).thread (le.getD k {}).acc).1 ≠ le.getD k {} := fun hc => by have h9 := hd15; rw [aeqE_iff.2 hc] at h9; cases h9
      have hR := hE.trans (Ct.ex_neq (by omega) hb hq)
      refine rr (res2 Tryz.results64 rfl rfl) <| ?_
      rw [hR]; exact ⟨rfl, (h.fr (.c r1 .n)).drop⟩
     ·have hd16 : (aeq (entC ((Ct.entryM ys (le.getD k {}).thread (le.getD k {}).acc).1)) (entC (le.getD k {}))) = true := by simpa using hd14
      refine cf rfl hd14 <| sk <| bn <| nx <| rg <| st (bw rfl rfl (wadd (c := ((k + 1 : Nat) : Int)) (by omega) (by omega) (by omega))) <| st (mv rfl) <| xe <| nx <| ?_
      have hb : Ct.badE ys.length (le.getD k {}) = false := by unfold Ct.badE; rw [hxl, hd6, hd8, hd13]; rfl
      have hq : (Ct.entryM ys (le.getD k {}).thread (le.getD k {}).acc).1 = le.getD k {} := aeqE_iff.1 hd16
      exact ⟨(k + 1, (Ct.entryM ys (le.getD k {}).thread (le.getD k {}).acc).2), ⟨rfl, rfl, rfl, rfl, rfl, trivial⟩, ⟨(h.fr (.c r1 .n)).drop, by (try dsimp only); omega, by rw [Ct.entryM_len]; exact hxl, by rw [hE, Ct.ex_step (by omega) hb hq]⟩, by (try dsimp only); omega⟩
  ·have hg17 := eq_of_bneF hd6
   refine gF rfl rfl hd6 <| gF rfl rfl hd6 <| st (pF rfl hd6 rfl) <| st (mv rfl) <| gT rfl rfl rfl <| st (mv rfl) <| gT rfl rfl rfl <| st (fa fo_75_1 rfl) <| gT rfl rfl rfl <| st (fa fo_73_1 rfl) <| gT rfl rfl rfl <| st (ld one_41 rfl (h.c a0 rfl)) <| gT rfl rfl rfl <| cl (ca en_94 rfl) ((exists_any pc n cc ((le.getD k {}).acc.cell)).mono ?_)
   rintro _ _ ⟨rfl, rfl⟩
   refine ⟨_, rfl, ?_⟩
   refine gT rfl rfl rfl <| st (nt rfl) <| st (pF rfl rfl rfl) <| xe <| nx <| ?_
   rcases Bool.eq_false_or_eq_true (!(Ct.existsC n ((le.getD k {}).acc.cell))) with hd18 | hd18
   ·have hd19 : (Ct.existsC n ((le.getD k {}).acc.cell)) = false := by simpa using hd18
    refine ct rfl hd18 <| sq <| rg <| st (mv rfl) <| st (sg rfl) <| st (sg rfl) <| xe <| nx <| rt <| tr <| bt <| tr <| tr <| bt <| tr <| ?_
    have hb : Ct.badE ys.length (le.getD k {}) = true := by unfold Ct.badE; rw [hxl, hd6, hd19]; rfl
    have hR := hE.trans (Ct.ex_bad (by omega) hb)
    refine rr (res2 Tryz.results64 rfl rfl) <| ?_
    rw [hR]; exact ⟨rfl, h.drop⟩
   ·have hd20 : (Ct.existsC n ((le.getD k {}).acc.cell)) = true := by simpa using hd18
    refine cf rfl hd18 <| sk <| nx <| sq <| drH [1, 3, 5, 7, 9, 13, 10, 15] (by kernel_rfl) h (.c r0 .n) fun w h => tk (fun W H => mv rfl) <| tk (fun W H => fa fo_75_0 rfl) <| tk (fun W H => ld one_3 rfl (H.c a0 rfl)) <| tk (fun W H => fa fo_75_1 rfl) <| tk (fun W H => ldr (cs := [.int .i64 ((le.getD k {}).acc.kind), .int .i64 ((le.getD k {}).acc.cell), .int .i64 ((le.getD k {}).acc.old), .int .i64 ((le.getD k {}).acc.new)]) rfl (rows_of (H.b a0) 1 rfl) row_73) <| tk (fun W H => ldr rfl (rows_all (H.b a0)) row_75) <| cs (ca en_95 rfl) ((entry_any ys pc cc n ((le.getD k {}).thread) (le.getD k {}).acc hxl (h.fr (.c r1 .n))).mono ?_)
    rintro _ w ⟨rfl, h⟩
    refine ⟨_, rfl, h.hs (.c r1 .n), ?_⟩
    refine tk (fun W H => bne_ eq_75 rfl rfl rfl rfl) <| xz <| nx <| ?_
    rcases Bool.eq_false_or_eq_true (!aeq (entC ((Ct.entryM ys (le.getD k {}).thread (le.getD k {}).acc).1)) (entC (le.getD k {}))) with hd21 | hd21
    ·have hd22 : (aeq (entC ((Ct.entryM ys (le.getD k {}).thread (le.getD k {}).acc).1)) (entC (le.getD k {}))) = false := by simpa using hd21
     refine ct rfl hd21 <| sq <| rg <| st (mv rfl) <| st (sg rfl) <| st (sg rfl) <| xe <| nx <| rt <| bt <| tr <| tr <| bt <| tr <| ?_
     have hb : Ct.badE ys.length (le.getD k {}) = false := by unfold Ct.badE; rw [hxl, hd6, hd20]; rfl
     have hq : (Ct.entryM ys (le.getD k {}).thread (le.getD k {}).acc).1 ≠ le.getD k {} := fun hc => by have h9 := hd22; rw [aeqE_iff.2 hc] at h9; cases h9
     have hR := hE.trans (Ct.ex_neq (by omega) hb hq)
     refine rr (res2 Tryz.results64 rfl rfl) <| ?_
     rw [hR]; exact ⟨rfl, (h.fr (.c r1 .n)).drop⟩
    ·have hd23 : (aeq (entC ((Ct.entryM ys (le.getD k {}).thread (le.getD k {}).acc).1)) (entC (le.getD k {}))) = true := by simpa using hd21
     refine cf rfl hd21 <| sk <| bn <| nx <| rg <| st (bw rfl rfl (wadd (c := ((k + 1 : Nat) : Int)) (by omega) (by omega) (by omega))) <| st (mv rfl) <| xe <| nx <| ?_
     have hb : Ct.badE ys.length (le.getD k {}) = false := by unfold Ct.badE; rw [hxl, hd6, hd20]; rfl
     have hq : (Ct.entryM ys (le.getD k {}).thread (le.getD k {}).acc).1 = le.getD k {} := aeqE_iff.1 hd23
     exact ⟨(k + 1, (Ct.entryM ys (le.getD k {}).thread (le.getD k {}).acc).2), ⟨rfl, rfl, rfl, rfl, rfl, trivial⟩, ⟨(h.fr (.c r1 .n)).drop, by (try dsimp only); omega, by rw [Ct.entryM_len]; exact hxl, by rw [hE, Ct.ex_step (by omega) hb hq]⟩, by (try dsimp only); omega⟩
 ·have hg24 := of_decide_eq_false hd1
  refine cf rfl hd1 <| xt <| tx <| tx <| be <| nx <| sq <| rg <| st (mv rfl) <| st (ln sl_69 rfl rfl) <| st (sg rfl) <| st (sg rfl) <| xe <| nx <| rt <| ?_
  have hR := hE.trans (Ct.ex_end (by omega))
  obtain rfl : k = le.length := by omega
  refine rr (res2 Tryz.results64 rfl rfl) <| ?_
  rw [hR]; exact ⟨rfl, h⟩
end Go.Proofs.YtjlgchdekhmnnaaGreatDoor
end
section
namespace Go.Proofs.YtjlgchdekhmnnaaGreatDoor
open Go.E
theorem one_4 : oneC Tryz.prog 4 = true := by kernel_rfl
theorem ss_3 : sizes Tryz.prog 3 = some (.int .i64 0, 1, 8) := by kernel_rfl
theorem ss_75 : sizes Tryz.prog 75 = some (.agg [.int .i64 0, .int .i64 0, .int .i64 0, .int .i64 0, .int .i64 0, .int .i64 0, .bool false].toArray, 7, 56) := by kernel_rfl
theorem en_42 : Ents Tryz.prog 42 := enG Tryz.func42 rfl rfl
theorem en_69 : Ents Tryz.prog 69 := enG Tryz.func69 rfl rfl
theorem en_40 : Ents Tryz.prog 40 := enG Tryz.func40 rfl rfl
theorem en_68 : Ents Tryz.prog 68 := enG Tryz.func68 rfl rfl
theorem en_67 : Ents Tryz.prog 67 := enG Tryz.func67 rfl rfl
end Go.Proofs.YtjlgchdekhmnnaaGreatDoor
end
