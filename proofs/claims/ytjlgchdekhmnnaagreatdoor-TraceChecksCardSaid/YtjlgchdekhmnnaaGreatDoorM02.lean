/- Parts of a proof: Arena4, Laws, Node, Clone. -/
import Derived.Test.YtjlgchdekhmnnaaGreatDoorM01
import Derived.WalkKit
import Derived.OwnWalk
import Derived.Laws.CopyOwn
import Derived.Deep.MidRow
section
namespace Go.Proofs.YtjlgchdekhmnnaaGreatDoor
open Go.RowKit
set_option maxHeartbeats 800000 in
theorem cas_any (g : Ghost) (w : World) (s : Ct.St) (c old new : Int) (h : ArenaAt g w s) (hr : s.Room) :
    Calls Tryz.prog 307 #[.pointer (some ⟨g.a, 0, none⟩), .int .i64 c, .int .i64 old, .int .i64 new] w (Does g w (.bool (s.cas c old new).2) (s.cas c old new).1) := by
  have c3 := h.c3
  have fz := h.free 3
  have hb : s.acc ≤ 274877906944 := by unfold Ct.St.Room Ct.St.size at hr; omega
  have hb2 : s.cells.length ≤ 274877906944 := by unfold Ct.St.Room Ct.St.size at hr; omega
  have h1 := h.setAcc (s.acc + 1)
  have st := Step.setCell (g := g) w 3 (.int .i64 ((s.acc + 1 : Nat) : Int))
  have hw : (w.setCell ⟨g.a, 3, none⟩ (.int .i64 ((s.acc + 1 : Nat) : Int))) = w.setCell ⟨g.a, 3, none⟩ (.int .i64 ((s.acc : Int) + 1)) := by
    rw [show ((s.acc + 1 : Nat) : Int) = (s.acc : Int) + 1 by omega]
  rw [hw] at h1 st
  generalize hW : w.setCell ⟨g.a, 3, none⟩ (.int .i64 ((s.acc : Int) + 1)) = W at h1 st
  have HW := Lib.hid hW
  have hhas := hasCell_any g W _ c h1
  have e1 : ({ s with acc := s.acc + 1 } : Ct.St).hasCell c = s.hasCell c := rfl
  rw [e1] at hhas
  have H1 := Lib.hid h1; have HS := Lib.hid st; have HH := Lib.hid hhas
  clear h h1 st hhas hw hW hr e1
  cases hc : s.hasCell c
  · have hsw : s.swaps c old = false := by unfold Ct.St.swaps; rw [hc]; rfl
    have Hv := Lib.hid (show s.cas c old new = ({ s with acc := s.acc + 1 }, false) by unfold Ct.St.cas; rw [hsw]; rfl)
    rw [hc] at HH
    clear hc hsw
    go_enter Tryz.func307, Tryz.ntmps307
    go_wp2_with fail
    rw [HW.out]
    refine HH.out.mono ?_
    rintro e w' ⟨rfl, rfl⟩
    go_wp2_with fail
    go_ret
    rw [Hv.out]
    exact ⟨rfl, g, H1.out, HS.out⟩
  · have hcr : 1 ≤ c ∧ c ≤ s.cells.length := by unfold Ct.St.hasCell at hc; simpa using hc
    have hsw : s.swaps c old = (s.cells.getD (c.toNat - 1) 0 == old) := by unfold Ct.St.swaps; rw [hc]; rfl
    obtain ⟨n, rfl⟩ : ∃ n : Nat, c = n + 1 := ⟨(c - 1).toNat, by omega⟩
    rw [show ((n : Int) + 1).toNat - 1 = n by omega] at hsw
    have hn : n < s.cells.length := by omega
    obtain ⟨b, cap, hvc, hcell, hfr, ho⟩ := H1.out.cellAt (j := n) hn
    have c1 := H1.out.c1
    rw [hvc] at c1
    rw [hc] at HH
    simp only at c1 hcell
    have hst := H1.out.storeCell (x := new) ho hn
    have HST := Lib.hid hst
    have Hfin := Lib.hid (show s.cas ((n : Int) + 1) old new = ({ s with acc := s.acc + 1, cells := if s.swaps ((n : Int) + 1) old then s.cells.set n new else s.cells }, s.swaps ((n : Int) + 1) old) by
      unfold Ct.St.cas; rw [show ((n : Int) + 1).toNat - 1 = n by omega])
    rw [hsw] at Hfin
    clear hst hc hcr hsw hvc ho
    generalize hz : s.cells.getD n 0 = z at *
    by_cases hzo : z = old
    · subst hzo
      have q1 : (z != z) = false := by simp
      have Hf2 := Lib.hid (show s.cas ((n : Int) + 1) z new = ({ s with acc := s.acc + 1, cells := s.cells.set n new }, true) by rw [Hfin.out]; simp)
      clear hz
      go_enter Tryz.func307, Tryz.ntmps307
      go_wp2_with fail
      rw [HW.out]
      refine HH.out.mono ?_
      rintro e w' ⟨rfl, rfl⟩
      go_wp2_with fail
      go_ret
      rw [Hf2.out]
      exact ⟨rfl, g, HST.out.1, HS.out.trans HST.out.2⟩
    · have q1 : (z != old) = true := by simp [hzo]
      have Hf2 := Lib.hid (show s.cas ((n : Int) + 1) old new = ({ s with acc := s.acc + 1 }, false) by
        rw [Hfin.out]; have : (z == old) = false := by simp [hzo]
        rw [this]; rfl)
      clear hz hzo
      go_enter Tryz.func307, Tryz.ntmps307
      go_wp2_with fail
      rw [HW.out]
      refine HH.out.mono ?_
      rintro e w' ⟨rfl, rfl⟩
      go_wp2_with fail
      go_ret
      rw [Hf2.out]
      exact ⟨rfl, g, H1.out, HS.out⟩
end Go.Proofs.YtjlgchdekhmnnaaGreatDoor
end
section
namespace Go.Proofs.YtjlgchdekhmnnaaGreatDoor
open Go.RowKit
theorem run_copy_full {P : Program} (w : World) (dT sT ty elem : TypeId) (i : TypeInfo) (size : Nat) (g n : Nat) (a : Addr) (sCap dCap : Nat) (cur : Array Value) (t : TypeId) (cs : List Value)
    (hu : P.underlying dT = some (.slice elem)) (hi : P.info? elem = some i) (hs : i.size = size)
    (hg : w.heap[g]? = some (.cells cur t (0, 0))) (hn : cs.length = n * size) (hc : cur.size = cs.length)
    (hsrc : ∀ j v, cs[j]? = some v → w.cell? (a.add j) = some v) (h1 : ∀ v ∈ cs, v.oneCell' = true) :
    (Builtin.copy_ #[dT, sT] ty #[.slice (some ⟨g, 0, none⟩) n dCap, .slice (some a) n sCap]).run P w = .ok (goInt n) (w.setRow g cs.toArray) := by
  have hl := run_firstCells_some (P := P) w size n a n sCap cs hn hsrc
  have hst := run_storeCells_at P g 0 t cs 0 cur w hg (by omega) h1
  have e : (cur.toList.take (0 + 0) ++ cs ++ cur.toList.drop (0 + 0 + cs.length)) = cs := by
    have : cur.toList.drop (0 + 0 + cs.length) = [] := List.drop_eq_nil_of_le (by simp; omega)
    rw [this]; simp
  rw [e] at hst
  simp [Builtin.copy_, run_underlying hu, Builtin.lenOf, sizeOf, typeInfo, hi, hs, hl, hst]
theorem wpList_copy_full {P : Program} {w : World} {ops : Array Oper} {rest : List Oper} {o : Oper} {a : Act} {Q : Exit → Act → World → Prop} (hgd : o.guard = none) (d s : Operand) (dT sT : TypeId)
    (ho : o.op = .call { callee := .builtin .copy, args := #[d, s], argTypes := #[dT, sT] }) (base : Nat) (elem : TypeId) (i : TypeInfo) (size : Nat) (hu : P.underlying dT = some (.slice elem)) (hi : P.info? elem = some i) (hsz : i.size = size)
    (g n : Nat) (olds : List Value) (hd : a.eval d = .slice (some ⟨g, 0, none⟩) n n) (hown : w.ownsRow base elem size (.slice (some ⟨g, 0, none⟩) n n) n olds)
    (ad : Addr) (sCap : Nat) (hs : a.eval s = .slice (some ad) n sCap) (cs : List Value) (hl : cs.length = n * size)
    (hsrc : ∀ j v, cs[j]? = some v → w.cell? (ad.add j) = some v) (h1 : ∀ v ∈ cs, v.oneCell' = true)
    (h : ∀ w', w'.ownsRow base elem size (.slice (some ⟨g, 0, none⟩) n n) n cs → w.grownBy w' (some g) → wpList P ops Q rest (a.put o.dst (goInt n)) w') : wpList P ops Q (o :: rest) a w := by
  refine wpList_plain hgd fun K hK => ?_
  rcases hown.2 with ⟨hv, _⟩ | ⟨g', cap, cur, hv, hb, hg, hc, hm, hcs, ht⟩
  · injection hv with h1 _ _; cases h1
  · injection hv with e1 e2 e3
    simp at e1
    subst e1 e3
    have hrun := run_copy_full (P := P) w dT sT o.type elem i size g n ad sCap n cur elem cs hu hi hsz hg hl (by rw [hcs, hl]) hsrc h1
    unfold Oper.wp
    simp [execOp, ho, resolve, invoke, builtin, hd, hs, hrun, Result.andThen]
    refine hK _ _ (h _ ?_ ?_)
    · refine ⟨hl, .inr ⟨g, n, cs.toArray, rfl, hb, setRow_heap w g cur _ elem _ hg, Nat.le_refl _, hm, by simp [hl], ?_⟩⟩
      simp [← hl]
    · exact ⟨rfl, rfl, rfl, by simp [World.setRow], fun k _ hne => setRow_other w g k _ (fun e => hne (by rw [e]))⟩
end Go.Proofs.YtjlgchdekhmnnaaGreatDoor
end
section
namespace Go.Proofs.YtjlgchdekhmnnaaGreatDoor
open Go.RowKit
def pairCells (xs : List Ct.Pair) : List Value := xs.flatMap fun p => [.string p.key, .int .u64 (p.value : Nat)]
theorem pairCells_length (xs : List Ct.Pair) : (pairCells xs).length = xs.length * 2 := by
  induction xs with
  | nil => rfl
  | cons p xs ih =>
    have : pairCells (p :: xs) = [.string p.key, .int .u64 (p.value : Nat)] ++ pairCells xs := rfl
    rw [this, List.length_append, ih]; simp; omega
theorem pairCells_key (xs : List Ct.Pair) : ∀ j, (pairCells xs)[2 * j]? = (xs[j]?).map fun p => Value.string p.key := by
  induction xs with
  | nil => intro j; simp [pairCells]
  | cons p xs ih =>
    intro j
    have e : pairCells (p :: xs) = .string p.key :: .int .u64 (p.value : Nat) :: pairCells xs := rfl
    rw [e]
    cases j with
    | zero => rfl
    | succ j => rw [show 2 * (j + 1) = 2 * j + 1 + 1 by omega]; simpa using ih j
theorem pairCells_value (xs : List Ct.Pair) : ∀ j, (pairCells xs)[2 * j + 1]? = (xs[j]?).map fun p => Value.int .u64 (p.value : Nat) := by
  induction xs with
  | nil => intro j; simp [pairCells]
  | cons p xs ih =>
    intro j
    have e : pairCells (p :: xs) = .string p.key :: .int .u64 (p.value : Nat) :: pairCells xs := rfl
    rw [e]
    cases j with
    | zero => rfl
    | succ j => rw [show 2 * (j + 1) + 1 = 2 * j + 1 + 1 + 1 by omega]; simpa using ih j
theorem pairCells_one (xs : List Ct.Pair) : ∀ v ∈ pairCells xs, v.oneCell' = true := by
  intro v hv
  unfold pairCells at hv
  rw [List.mem_flatMap] at hv
  obtain ⟨p, _, hp⟩ := hv
  simp at hp
  rcases hp with rfl | rfl <;> rfl
theorem info_Pair : (Tryz.prog.info? 211).map (fun i => (i.zero, i.size, i.bytes)) = some (some (.agg #[.string .empty, .int .u64 0]), 2, 24) := by kernel_rfl
theorem add_at (b off j : Nat) : (⟨b, off, none⟩ : Addr).add j = ⟨b, off + j, none⟩ := by simp [Addr.add]
theorem refsAt_of_own {B : Nat} {w : World} {g n cap : Nat} {t : TypeId} {xs : List Int} (h : w.ownsRow B t 1 (.slice (some ⟨g, 0, none⟩) n cap) n (xs.map (Value.int .i64))) : RefsAt (fun k => k < B) w (.slice (some ⟨g, 0, none⟩) n cap) xs := by
  have hl : n = xs.length := by have := h.1; simp at this; omega
  subst hl
  have hlt := h.lt g rfl
  have hc := h.cells (g := g) rfl
  have hcap : xs.length ≤ cap ∧ cap ≤ maxLen := by
    rcases h.2 with ⟨hv, _⟩ | ⟨g', cap', cur, hv, _, _, h1, h2, _⟩
    · injection hv with e _ _; cases e
    · injection hv with _ _ e3; subst e3; exact ⟨h1, h2⟩
  refine .inr ⟨g, 0, cap, rfl, by omega, hlt.2, hcap.1, hcap.2, fun j hj => ?_⟩
  have := hc j (.int .i64 (xs.getD j 0)) (by rw [List.getElem?_map, List.getD_eq_getElem?_getD, List.getElem?_eq_getElem hj]; rfl)
  rw [add_at] at this
  exact this
theorem pairsAt_of_own {B : Nat} {w : World} {g n cap : Nat} {t : TypeId} {xs : List Ct.Pair} (h : w.ownsRow B t 2 (.slice (some ⟨g, 0, none⟩) n cap) n (pairCells xs)) : PairsAt (fun k => k < B) w (.slice (some ⟨g, 0, none⟩) n cap) xs := by
  have hl : n = xs.length := by have := h.1; rw [pairCells_length] at this; omega
  subst hl
  have hlt := h.lt g rfl
  have hc := h.cells (g := g) rfl
  have hcap : xs.length ≤ cap ∧ cap ≤ maxLen := by
    rcases h.2 with ⟨hv, _⟩ | ⟨g', cap', cur, hv, _, _, h1, h2, _⟩
    · injection hv with e _ _; cases e
    · injection hv with _ _ e3; subst e3; exact ⟨h1, h2⟩
  refine .inr ⟨g, 0, cap, rfl, by omega, hlt.2, hcap.1, hcap.2, fun j hj => ⟨?_, ?_⟩⟩
  · have := hc (2 * j) (.string (xs.getD j ⟨.empty, 0⟩).key) (by rw [pairCells_key, List.getD_eq_getElem?_getD, List.getElem?_eq_getElem hj]; rfl)
    rw [add_at] at this
    exact this
  · have := hc (2 * j + 1) (.int .u64 ((xs.getD j ⟨.empty, 0⟩).value : Nat)) (by rw [pairCells_value, List.getD_eq_getElem?_getD, List.getElem?_eq_getElem hj]; rfl)
    rw [add_at] at this
    exact this
theorem RefsAt.avoid {N N' : Nat → Prop} {w : World} {v : Value} {xs : List Int} (h : RefsAt N w v xs) (hN : ∀ k, k < w.heap.size → N' k → N k) : RefsAt N' w v xs := by
  rcases h with h | ⟨b, off, cap, hv, hb, hl, rest⟩
  · exact .inl h
  · exact .inr ⟨b, off, cap, hv, fun hn => hb (hN b hl hn), hl, rest⟩
theorem PairsAt.avoid {N N' : Nat → Prop} {w : World} {v : Value} {xs : List Ct.Pair} (h : PairsAt N w v xs) (hN : ∀ k, k < w.heap.size → N' k → N k) : PairsAt N' w v xs := by
  rcases h with h | ⟨b, off, cap, hv, hb, hl, rest⟩
  · exact .inl h
  · exact .inr ⟨b, off, cap, hv, fun hn => hb (hN b hl hn), hl, rest⟩
def CopyRefs (w : World) (xs : List Int) (e : Ending) (w' : World) : Prop := ∃ v, e = .returned v ∧ RefsAt (fun k => k < w.heap.size) w' v xs ∧ Below w.heap.size w w'
def CopyPairs (w : World) (xs : List Ct.Pair) (e : Ending) (w' : World) : Prop := ∃ v, e = .returned v ∧ PairsAt (fun k => k < w.heap.size) w' v xs ∧ Below w.heap.size w w'
set_option maxRecDepth 100000 in
set_option maxHeartbeats 800000 in
theorem copiedRefs_any (N : Nat → Prop) (w : World) (v : Value) (xs : List Int) (h : RefsAt N w v xs) (hl : xs.length ≤ 1000000) :
    Calls Tryz.prog 166 #[v] w (CopyRefs w xs) := by
  obtain ⟨i0, hi, hz0, hz1, hz2⟩ := info_parts info_Ref
  by_cases h0 : xs.length = 0
  · obtain ⟨a, cap, rfl⟩ : ∃ a cap, v = .slice a 0 cap := by
      rcases h with ⟨rfl, _⟩ | ⟨b, off, cap, rfl, _⟩
      · exact ⟨_, _, rfl⟩
      · exact ⟨_, _, by rw [h0]⟩
    have hx : xs = [] := List.eq_nil_of_length_eq_zero h0
    clear h h0 hl
    go_enter Tryz.func166, Tryz.ntmps166
    go_wp2_with fail
    go_ret
    exact ⟨_, rfl, .inl ⟨rfl, hx⟩, Below.refl _ _⟩
  · rcases h with ⟨_, rfl⟩ | ⟨b, off, cap, rfl, hb, hlt, hc, hm, hcell⟩
    · simp at h0
    · have hsrc : ∀ j u, (xs.map (Value.int .i64))[j]? = some u → w.cell? ((⟨b, off, none⟩ : Addr).add j) = some u := by
        intro j u hu
        rw [List.getElem?_map] at hu
        cases hq : xs[j]? with
        | none => rw [hq] at hu; cases hu
        | some z =>
          rw [hq] at hu
          simp at hu
          subst hu
          have hj : j < xs.length := (List.getElem?_eq_some_iff.1 hq).1
          rw [add_at, hcell j hj, List.getD_eq_getElem?_getD, hq]
          rfl
      have Hsrc := Lib.hid hsrc
      obtain ⟨n, hn⟩ : ∃ n, xs.length = n := ⟨_, rfl⟩
      have Hn := Lib.hid hn
      rw [hn] at hl h0
      rw [hn]
      have hz : ((n : Int) == 0) = false := by simp; omega
      clear hcell hsrc hn hc hm
      go_enter Tryz.func166, Tryz.ntmps166
      go_wp2_with (first
        | (at_make; refine wpList_make_full _ rfl _ _ 56 rfl w.heap.size 40 i0 (.int .i64 0) 1 Tryz.underlying56 hi hz0 hz1 .i64 .i64 _ _ n rfl rfl rfl rfl (by rw [hz2]; omega) (by unfold maxLen; omega) (Nat.le_refl _) ?_; intro w0 hown0 hgrow0)
        | (refine wpList_copy_full rfl (.tmp 10) (.tmp 11) 56 56 rfl w.heap.size 40 i0 1 Tryz.underlying56 hi hz1 w.heap.size n _ rfl hown0 ⟨b, off, none⟩ cap rfl (xs.map (Value.int .i64)) ?c1 ?c2 ?c3 ?_))
      case c1 => have := Hn.out; simp; omega
      case c2 =>
        intro j u hu
        exact cell_later ((Below.refl _ _).grown hgrow0 (Nat.le_refl _) (fun k hk => by cases hk)) (Hsrc.out j u hu)
      case c3 => intro u hu; simp at hu; obtain ⟨z, _, rfl⟩ := hu; rfl
      intro w1 hown1 hgrow1
      have hb0 : Below w.heap.size w w0 := (Below.refl _ _).grown hgrow0 (Nat.le_refl _) (fun k hk => by cases hk)
      have hb1 := hb0.grown hgrow1 hb0.size (fun k hk => by injection hk with hk; omega)
      have R := Lib.hid (refsAt_of_own hown1)
      have HB := Lib.hid hb1
      clear hown0 hown1 hgrow0 hgrow1 hb0 hb1
      go_wp2_with fail
      go_ret
      exact ⟨_, rfl, R.out, HB.out⟩
set_option maxRecDepth 100000 in
set_option maxHeartbeats 800000 in
theorem copiedPairs_any (N : Nat → Prop) (w : World) (v : Value) (xs : List Ct.Pair) (h : PairsAt N w v xs) (hl : xs.length ≤ 549755813888) :
    Calls Tryz.prog 167 #[v] w (CopyPairs w xs) := by
  obtain ⟨i0, hi, hz0, hz1, hz2⟩ := info_parts info_Pair
  by_cases h0 : xs.length = 0
  · obtain ⟨a, cap, rfl⟩ : ∃ a cap, v = .slice a 0 cap := by
      rcases h with ⟨rfl, _⟩ | ⟨b, off, cap, rfl, _⟩
      · exact ⟨_, _, rfl⟩
      · exact ⟨_, _, by rw [h0]⟩
    have hx : xs = [] := List.eq_nil_of_length_eq_zero h0
    clear h h0 hl
    go_enter Tryz.func167, Tryz.ntmps167
    go_wp2_with fail
    go_ret
    exact ⟨_, rfl, .inl ⟨rfl, hx⟩, Below.refl _ _⟩
  · rcases h with ⟨_, rfl⟩ | ⟨b, off, cap, rfl, hb, hlt, hc, hm, hcell⟩
    · simp at h0
    · have hsrc : ∀ j u, (pairCells xs)[j]? = some u → w.cell? ((⟨b, off, none⟩ : Addr).add j) = some u := by
        intro j u hu
        have hj2 : j < xs.length * 2 := by rw [← pairCells_length]; exact (List.getElem?_eq_some_iff.1 hu).1
        have hq : j / 2 < xs.length := by omega
        rw [add_at]
        rcases Nat.mod_two_eq_zero_or_one j with e | e
        · obtain ⟨q, rfl⟩ : ∃ q, j = 2 * q := ⟨j / 2, by omega⟩
          have hq' : q < xs.length := by omega
          rw [pairCells_key, List.getElem?_eq_getElem hq'] at hu
          rw [(hcell q hq').1, ← hu, List.getD_eq_getElem?_getD, List.getElem?_eq_getElem hq']
          rfl
        · have ej : j = 2 * (j / 2) + 1 := by omega
          rw [ej] at hu ⊢
          rw [pairCells_value, List.getElem?_eq_getElem hq] at hu
          have := (hcell (j / 2) hq).2
          rw [← Nat.add_assoc, this, ← hu, List.getD_eq_getElem?_getD, List.getElem?_eq_getElem hq]
          rfl
      have Hsrc := Lib.hid hsrc
      obtain ⟨n, hn⟩ : ∃ n, xs.length = n := ⟨_, rfl⟩
      have Hn := Lib.hid hn
      rw [hn] at hl h0
      rw [hn]
      have hz : ((n : Int) == 0) = false := by simp; omega
      clear hcell hsrc hn hc hm
      go_enter Tryz.func167, Tryz.ntmps167
      go_wp2_with (first
        | (at_make; refine wpList_make_full _ rfl _ _ 134 rfl w.heap.size 211 i0 (.agg #[.string .empty, .int .u64 0]) 2 Tryz.underlying134 hi hz0 hz1 .i64 .i64 _ _ n rfl rfl rfl rfl (by rw [hz2]; omega) (by unfold maxLen; omega) (Nat.le_refl _) ?_; intro w0 hown0 hgrow0)
        | (refine wpList_copy_full rfl (.tmp 10) (.tmp 11) 134 134 rfl w.heap.size 211 i0 2 Tryz.underlying134 hi hz1 w.heap.size n _ rfl hown0 ⟨b, off, none⟩ cap rfl (pairCells xs) ?c1 ?c2 (pairCells_one xs) ?_))
      case c1 => have := Hn.out; rw [pairCells_length]; omega
      case c2 =>
        intro j u hu
        exact cell_later ((Below.refl _ _).grown hgrow0 (Nat.le_refl _) (fun k hk => by cases hk)) (Hsrc.out j u hu)
      intro w1 hown1 hgrow1
      have hb0 : Below w.heap.size w w0 := (Below.refl _ _).grown hgrow0 (Nat.le_refl _) (fun k hk => by cases hk)
      have hb1 := hb0.grown hgrow1 hb0.size (fun k hk => by injection hk with hk; omega)
      have R := Lib.hid (pairsAt_of_own hown1)
      have HB := Lib.hid hb1
      clear hown0 hown1 hgrow0 hgrow1 hb0 hb1
      go_wp2_with fail
      go_ret
      exact ⟨_, rfl, R.out, HB.out⟩
end Go.Proofs.YtjlgchdekhmnnaaGreatDoor
end
section
namespace Go.Proofs.YtjlgchdekhmnnaaGreatDoor
open Go.RowKit
def CopyNode (w : World) (n : Ct.Node) (e : Ending) (w' : World) : Prop := ∃ cs, e = .returned (.agg cs.toArray) ∧ NodeAt (fun k => k < w.heap.size) w' cs n ∧ Below w.heap.size w w'
theorem heap_below {B : Nat} {w w' : World} (h : Below B w w') {k : Nat} {o : Obj} (hk : w.heap[k]? = some o) (hB : k < B) : w'.heap[k]? = some o := (h.block k hB).trans hk
theorem heap_alloc_at (w : World) (o : Obj) : (w.alloc o).heap[w.heap.size]? = some o := heap_alloc_new w o
theorem heap_alloc_of {w : World} {k : Nat} {o : Obj} (h : w.heap[k]? = some o) (o' : Obj) : (w.alloc o').heap[k]? = some o :=
  (Below.heap_alloc w o' k (Array.getElem?_eq_some_iff.1 h).1).trans h
theorem heap_setCell_of {w : World} {k : Nat} {o : Obj} (h : w.heap[k]? = some o) (a : Addr) (v : Value) (hne : k ≠ a.block) : (w.setCell a v).heap[k]? = some o :=
  (Below.heap_setCell w a v k hne).trans h
theorem cell_at {w : World} {g : Nat} {cs : Array Value} {t : TypeId} {fr : Nat × Nat} (h : w.heap[g]? = some (.cells cs t fr)) (i : Nat) : w.cell? ⟨g, i, none⟩ = cs[i]? := cell_of_row w g i cs t fr h
theorem free_at {w : World} {g : Nat} {cs : Array Value} {t : TypeId} (h : w.heap[g]? = some (.cells cs t (0, 0))) (i : Nat) : w.frozen? ⟨g, i, none⟩ = false := by simp [World.frozen?, h]
theorem Keep.setRow {F : Nat → Prop} (w : World) (g : Nat) (cs : Array Value) (hp : F g) : Keep F w (w.setRow g cs) :=
  ⟨rfl, rfl, rfl, by simp [World.setRow], fun k _ hn => setRow_other w g k cs (fun e => hn (e ▸ hp))⟩
theorem info_Node_size : (Tryz.prog.info? 136).map (·.size) = some 14 := by kernel_rfl
def zeroNode : Array Value := #[.int .i64 0, .int .i64 0, .int .i64 0, .int .u64 0, .slice none 0 0, .int .u64 0, .string ⟨#[]⟩, .int .u64 0, .slice none 0 0, .int .i64 0, .int .i64 0, .int .i64 0, .int .i64 0, .int .i64 0]
theorem RefsAt.one {N : Nat → Prop} {w : World} {v : Value} {xs : List Int} (h : RefsAt N w v xs) : v.oneCell' = true := by
  rcases h with ⟨rfl, _⟩ | ⟨b, off, cap, rfl, _⟩ <;> rfl
theorem PairsAt.one {N : Nat → Prop} {w : World} {v : Value} {xs : List Ct.Pair} (h : PairsAt N w v xs) : v.oneCell' = true := by
  rcases h with ⟨rfl, _⟩ | ⟨b, off, cap, rfl, _⟩ <;> rfl
theorem RefsAt.shape {N : Nat → Prop} {w : World} {v : Value} {xs : List Int} (h : RefsAt N w v xs) : ∃ a l c, v = .slice a l c := by
  rcases h with ⟨rfl, _⟩ | ⟨b, off, cap, rfl, _⟩ <;> exact ⟨_, _, _, rfl⟩
theorem PairsAt.shape {N : Nat → Prop} {w : World} {v : Value} {xs : List Ct.Pair} (h : PairsAt N w v xs) : ∃ a l c, v = .slice a l c := by
  rcases h with ⟨rfl, _⟩ | ⟨b, off, cap, rfl, _⟩ <;> exact ⟨_, _, _, rfl⟩
theorem nodeCells_one (n : Ct.Node) (bv pv : Value) (h1 : bv.oneCell' = true) (h2 : pv.oneCell' = true) : (nodeCells n bv pv).toArray.all (·.oneCell') = true := by
  have e : ∀ l : List Value, (∀ v ∈ l, v.oneCell' = true) → l.toArray.all (·.oneCell') = true := by
    intro l hl
    simpa using hl
  apply e
  intro v hv
  simp only [nodeCells, List.mem_cons, List.not_mem_nil, or_false] at hv
  rcases hv with rfl | rfl | rfl | rfl | rfl | rfl | rfl | rfl | rfl | rfl | rfl | rfl | rfl | rfl <;> first | rfl | assumption
set_option maxRecDepth 100000 in
set_option maxHeartbeats 1000000 in
theorem clone_any (N : Nat → Prop) (w : World) (n : Ct.Node) (bv pv : Value) (h1 : RefsAt N w bv n.branches) (h2 : PairsAt N w pv n.pairs) (l1 : n.branches.length ≤ 1000000) (l2 : n.pairs.length ≤ 549755813888) :
    Calls Tryz.prog 134 #[.agg (nodeCells n bv pv).toArray] w (CopyNode w n) := by
  unfold nodeCells
  have H1 := Lib.hid h1; have H2 := Lib.hid h2
  clear h1 h2
  go_enter Tryz.func134, Tryz.ntmps134
  go_wp2_with fail
  obtain ⟨W, hW⟩ : ∃ W, (w.alloc (.cells (nodeCells n bv pv).toArray 136)).alloc (.cells zeroNode 136) = W := ⟨_, rfl⟩
  have e1 : W.heap.size = w.heap.size + 2 := by rw [← hW]; simp
  have a0 : W.heap[w.heap.size]? = some (.cells (nodeCells n bv pv).toArray 136) := by
    rw [← hW]; exact heap_alloc_of (heap_alloc_at w _) _
  have a1 : W.heap[w.heap.size + 1]? = some (.cells zeroNode 136) := by
    rw [← hW]
    have := heap_alloc_at (w.alloc (.cells (nodeCells n bv pv).toArray 136)) (.cells zeroNode 136)
    simpa using this
  have hBW : Below w.heap.size w W := by rw [← hW]; exact ((Below.refl _ _).alloc (Nat.le_refl _) _).alloc (by simp) _
  have HW := Lib.hid hW
  have E1 := Lib.hid e1; have A0 := Lib.hid a0; have A1 := Lib.hid a1; have BW := Lib.hid hBW
  show Calls _ _ _ ((w.alloc (.cells (nodeCells n bv pv).toArray 136)).alloc (.cells zeroNode 136)) _
  rw [HW.out]
  clear hW e1 a0 a1 hBW
  refine (copiedRefs_any N W bv _ (H1.out.keep (Keep.below BW.out (fun _ => False)) (fun _ h => h.elim) (fun _ h => .inl h)) l1).mono ?_
  rintro e w1 ⟨v1, rfl, hr1, hb1⟩
  obtain ⟨p1, m1, c1, hv1⟩ := hr1.shape
  subst hv1
  have R1 := Lib.hid hr1; have B1 := Lib.hid hb1
  have x0 := heap_below hb1 A0.out (by rw [E1.out]; omega)
  have x1 := heap_below hb1 A1.out (by rw [E1.out]; omega)
  have d4 : w1.cell? ⟨w.heap.size, 4, none⟩ = some bv := by rw [cell_at x0]; rfl
  have d8 : w1.cell? ⟨w.heap.size, 8, none⟩ = some pv := by rw [cell_at x0]; rfl
  have f4 := free_at x0 4
  have X0 := Lib.hid x0; have X1 := Lib.hid x1
  clear hr1 hb1 x0 x1
  go_wp2_with fail
  obtain ⟨W2, hW2⟩ : ∃ W2, w1.setCell ⟨w.heap.size, 4, none⟩ (.slice p1 m1 c1) = W2 := ⟨_, rfl⟩
  have y0 : W2.heap[w.heap.size]? = some (.cells (nodeCells n (.slice p1 m1 c1) pv).toArray 136) := by
    rw [← hW2, heap_setCell_at w1 w.heap.size 4 (.slice p1 m1 c1) _ _ _ X0.out]; rfl
  have y1 : W2.heap[w.heap.size + 1]? = some (.cells zeroNode 136) := by
    rw [← hW2]; exact heap_setCell_of X1.out _ _ (by simp)
  have k2 : Keep (fun k => k = w.heap.size) w1 W2 := by rw [← hW2]; exact Keep.setCell w1 ⟨w.heap.size, 4, none⟩ (.slice p1 m1 c1) rfl
  have Y0 := Lib.hid y0; have Y1 := Lib.hid y1; have K2 := Lib.hid k2
  rw [hW2]
  clear hW2 y0 y1 k2 d4 d8 f4
  have BW2 := Lib.hid (show Below w.heap.size w W2 from (BW.out.trans (B1.out.mono BW.out.size)).trans (K2.out.toBelow _ (by have := B1.out.size; have := BW.out.size; omega) (fun k hk => by omega)))
  refine (copiedPairs_any N W2 pv _ (H2.out.keep (Keep.below BW2.out (fun _ => False)) (fun _ h => h.elim) (fun _ h => .inl h)) l2).mono ?_
  rintro e w3 ⟨v2, rfl, hr2, hb2⟩
  obtain ⟨p2, m2, c2, hv2⟩ := hr2.shape
  subst hv2
  have R2 := Lib.hid hr2; have B2 := Lib.hid hb2
  have hs2 : w.heap.size + 1 < W2.heap.size := (Array.getElem?_eq_some_iff.1 Y1.out).1
  have z0 := heap_below hb2 Y0.out (by omega)
  have z1 := heap_below hb2 Y1.out (by omega)
  have d8 : w3.cell? ⟨w.heap.size, 8, none⟩ = some pv := by rw [cell_at z0]; rfl
  have f8 := free_at z0 8
  have q0 : (w3.setCell ⟨w.heap.size, 8, none⟩ (.slice p2 m2 c2)).heap[w.heap.size]? = some (.cells (nodeCells n (.slice p1 m1 c1) (.slice p2 m2 c2)).toArray 136) := by
    rw [heap_setCell_at w3 w.heap.size 8 (.slice p2 m2 c2) _ _ _ z0]; rfl
  have q1 : (w3.setCell ⟨w.heap.size, 8, none⟩ (.slice p2 m2 c2)).heap[w.heap.size + 1]? = some (.cells zeroNode 136) := heap_setCell_of z1 _ _ (by simp)
  have Q0 := Lib.hid q0; have Q1 := Lib.hid q1
  clear hr2 hb2 z0 z1 q0 q1
  go_wp2_with (first
    | (refine wpList_load_row rfl 136 (.tmp 1) rfl w.heap.size rfl 136 (nodeCells n (.slice p1 m1 c1) (.slice p2 m2 c2)).toArray (0, 0) _ Q0.out Tryz.underlying136 rfl info_Node_size ?_)
    | (refine wpList_store_row rfl 136 (.tmp 2) (.tmp 11) rfl (w.heap.size + 1) (nodeCells n (.slice p1 m1 c1) (.slice p2 m2 c2)).toArray rfl rfl 136 zeroNode Q1.out info_Node_size rfl (nodeCells_one n (.slice p1 m1 c1) (.slice p2 m2 c2) R1.out.one R2.out.one) ?_))
  have K3 : Keep (fun k => k = w.heap.size ∨ k = w.heap.size + 1) w3 ((w3.setCell ⟨w.heap.size, 8, none⟩ (.slice p2 m2 c2)).setRow (w.heap.size + 1) (nodeCells n (.slice p1 m1 c1) (.slice p2 m2 c2)).toArray) :=
    (Keep.setCell w3 ⟨w.heap.size, 8, none⟩ _ (.inl rfl)).trans (Keep.setRow _ (w.heap.size + 1) _ (F := fun k => k = w.heap.size + 1) rfl) (fun k hk => .inl (.inr hk))
  have K13 : Keep (fun k => k = w.heap.size ∨ k = w.heap.size + 1) w1 ((w3.setCell ⟨w.heap.size, 8, none⟩ (.slice p2 m2 c2)).setRow (w.heap.size + 1) (nodeCells n (.slice p1 m1 c1) (.slice p2 m2 c2)).toArray) :=
    ((K2.out.mono (fun k _ hk => .inl hk)).trans (Keep.below B2.out (fun _ => False)) (fun _ h => h.elim)).trans K3 (fun k hk => .inl hk)
  have e1 := E1.out
  have r1 := (R1.out.keep K13 (N' := fun k => k < W.heap.size) (fun k hk => .inl (by omega)) (fun k hk => .inl hk)).avoid (N' := fun k => k < w.heap.size) (fun k _ hk => by omega)
  have r2 := (R2.out.keep K3 (N' := fun k => k < W2.heap.size) (fun k hk => .inl (by omega)) (fun k hk => .inl hk)).avoid (N' := fun k => k < w.heap.size) (fun k _ hk => by omega)
  have hbel : Below w.heap.size w ((w3.setCell ⟨w.heap.size, 8, none⟩ (.slice p2 m2 c2)).setRow (w.heap.size + 1) (nodeCells n (.slice p1 m1 c1) (.slice p2 m2 c2)).toArray) :=
    (BW2.out.trans (B2.out.mono (by omega))).trans (K3.toBelow _ (by have := B2.out.size; omega) (fun k hk => by omega))
  refine bodyPost_ret (v := .agg (nodeCells n (.slice p1 m1 c1) (.slice p2 m2 c2)).toArray) (results_cell_row Tryz.results134 _ _ (w.heap.size + 1) 136 _ (0, 0) _ rfl (setRow_heap _ (w.heap.size + 1) _ _ _ _ Q1.out) Tryz.underlying136 rfl info_Node_size) rfl ⟨_, rfl, ⟨_, _, rfl, r1, r2⟩, hbel⟩
end Go.Proofs.YtjlgchdekhmnnaaGreatDoor
end
