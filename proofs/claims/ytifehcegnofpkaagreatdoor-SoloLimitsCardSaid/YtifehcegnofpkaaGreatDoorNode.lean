/- The walks of package node's copies. -/
import Derived.Test.YtifehcegnofpkaaGreatDoorArena4
import Derived.Test.YtifehcegnofpkaaGreatDoorLaws
namespace Go.Proofs.YtifehcegnofpkaaGreatDoor
open Go.RowKit

def pairCells (xs : List Ct.Pair) : List Value := xs.flatMap fun p => [.string p.key, .int .u64 (p.value : Nat)]

theorem pairCells_length (xs : List Ct.Pair) : (pairCells xs).length = xs.length * 2 := by
  induction xs with
  | nil => rfl
  | cons p xs ih =>
    have : pairCells (p :: xs) = [.string p.key, .int .u64 (p.value : Nat)] ++ pairCells xs := rfl
    rw [this, List.length_append, ih]; simp; omega
theorem pairCells_key (xs : List Ct.Pair) : ∀ j, (pairCells xs)[2 * j]? = (xs[j]?).map fun p => Value.string p.key := by
  induction xs with
  | nil => intro j; simp [pairCells]
  | cons p xs ih =>
    intro j
    have e : pairCells (p :: xs) = .string p.key :: .int .u64 (p.value : Nat) :: pairCells xs := rfl
    rw [e]
    cases j with
    | zero => rfl
    | succ j => rw [show 2 * (j + 1) = 2 * j + 1 + 1 by omega]; simpa using ih j
theorem pairCells_value (xs : List Ct.Pair) : ∀ j, (pairCells xs)[2 * j + 1]? = (xs[j]?).map fun p => Value.int .u64 (p.value : Nat) := by
  induction xs with
  | nil => intro j; simp [pairCells]
  | cons p xs ih =>
    intro j
    have e : pairCells (p :: xs) = .string p.key :: .int .u64 (p.value : Nat) :: pairCells xs := rfl
    rw [e]
    cases j with
    | zero => rfl
    | succ j => rw [show 2 * (j + 1) + 1 = 2 * j + 1 + 1 + 1 by omega]; simpa using ih j
theorem pairCells_one (xs : List Ct.Pair) : ∀ v ∈ pairCells xs, v.oneCell' = true := by
  intro v hv
  unfold pairCells at hv
  rw [List.mem_flatMap] at hv
  obtain ⟨p, _, hp⟩ := hv
  simp at hp
  rcases hp with rfl | rfl <;> rfl

theorem info_Pair : (Tryz.prog.info? 188).map (fun i => (i.zero, i.size, i.bytes)) = some (some (.agg #[.string .empty, .int .u64 0]), 2, 24) := by kernel_rfl

theorem add_at (b off j : Nat) : (⟨b, off, none⟩ : Addr).add j = ⟨b, off + j, none⟩ := by simp [Addr.add]

/-- A new row of numbers reads as its list. -/
theorem refsAt_of_own {B : Nat} {w : World} {g n cap : Nat} {t : TypeId} {xs : List Int} (h : w.ownsRow B t 1 (.slice (some ⟨g, 0, none⟩) n cap) n (xs.map (Value.int .i64))) : RefsAt (fun k => k < B) w (.slice (some ⟨g, 0, none⟩) n cap) xs := by
  have hl : n = xs.length := by have := h.1; simp at this; omega
  subst hl
  have hlt := h.lt g rfl
  have hc := h.cells (g := g) rfl
  have hcap : xs.length ≤ cap ∧ cap ≤ maxLen := by
    rcases h.2 with ⟨hv, _⟩ | ⟨g', cap', cur, hv, _, _, h1, h2, _⟩
    · injection hv with e _ _; cases e
    · injection hv with _ _ e3; subst e3; exact ⟨h1, h2⟩
  refine .inr ⟨g, 0, cap, rfl, by omega, hlt.2, hcap.1, hcap.2, fun j hj => ?_⟩
  have := hc j (.int .i64 (xs.getD j 0)) (by rw [List.getElem?_map, List.getD_eq_getElem?_getD, List.getElem?_eq_getElem hj]; rfl)
  rw [add_at] at this
  exact this
theorem pairsAt_of_own {B : Nat} {w : World} {g n cap : Nat} {t : TypeId} {xs : List Ct.Pair} (h : w.ownsRow B t 2 (.slice (some ⟨g, 0, none⟩) n cap) n (pairCells xs)) : PairsAt (fun k => k < B) w (.slice (some ⟨g, 0, none⟩) n cap) xs := by
  have hl : n = xs.length := by have := h.1; rw [pairCells_length] at this; omega
  subst hl
  have hlt := h.lt g rfl
  have hc := h.cells (g := g) rfl
  have hcap : xs.length ≤ cap ∧ cap ≤ maxLen := by
    rcases h.2 with ⟨hv, _⟩ | ⟨g', cap', cur, hv, _, _, h1, h2, _⟩
    · injection hv with e _ _; cases e
    · injection hv with _ _ e3; subst e3; exact ⟨h1, h2⟩
  refine .inr ⟨g, 0, cap, rfl, by omega, hlt.2, hcap.1, hcap.2, fun j hj => ⟨?_, ?_⟩⟩
  · have := hc (2 * j) (.string (xs.getD j ⟨.empty, 0⟩).key) (by rw [pairCells_key, List.getD_eq_getElem?_getD, List.getElem?_eq_getElem hj]; rfl)
    rw [add_at] at this
    exact this
  · have := hc (2 * j + 1) (.int .u64 ((xs.getD j ⟨.empty, 0⟩).value : Nat)) (by rw [pairCells_value, List.getD_eq_getElem?_getD, List.getElem?_eq_getElem hj]; rfl)
    rw [add_at] at this
    exact this
theorem RefsAt.avoid {N N' : Nat → Prop} {w : World} {v : Value} {xs : List Int} (h : RefsAt N w v xs) (hN : ∀ k, k < w.heap.size → N' k → N k) : RefsAt N' w v xs := by
  rcases h with h | ⟨b, off, cap, hv, hb, hl, rest⟩
  · exact .inl h
  · exact .inr ⟨b, off, cap, hv, fun hn => hb (hN b hl hn), hl, rest⟩
theorem PairsAt.avoid {N N' : Nat → Prop} {w : World} {v : Value} {xs : List Ct.Pair} (h : PairsAt N w v xs) (hN : ∀ k, k < w.heap.size → N' k → N k) : PairsAt N' w v xs := by
  rcases h with h | ⟨b, off, cap, hv, hb, hl, rest⟩
  · exact .inl h
  · exact .inr ⟨b, off, cap, hv, fun hn => hb (hN b hl hn), hl, rest⟩

/-- A call returns a copy of a list of numbers, in new memory. -/
def CopyRefs (w : World) (xs : List Int) (e : Ending) (w' : World) : Prop := ∃ v, e = .returned v ∧ RefsAt (fun k => k < w.heap.size) w' v xs ∧ Below w.heap.size w w'
def CopyPairs (w : World) (xs : List Ct.Pair) (e : Ending) (w' : World) : Prop := ∃ v, e = .returned v ∧ PairsAt (fun k => k < w.heap.size) w' v xs ∧ Below w.heap.size w w'

set_option maxRecDepth 100000 in
set_option maxHeartbeats 800000 in
theorem copiedRefs_any (N : Nat → Prop) (w : World) (v : Value) (xs : List Int) (h : RefsAt N w v xs) (hl : xs.length ≤ 1000000) :
    Calls Tryz.prog 201 #[v] w (CopyRefs w xs) := by
  obtain ⟨i0, hi, hz0, hz1, hz2⟩ := info_parts info_Ref
  by_cases h0 : xs.length = 0
  · obtain ⟨a, cap, rfl⟩ : ∃ a cap, v = .slice a 0 cap := by
      rcases h with ⟨rfl, _⟩ | ⟨b, off, cap, rfl, _⟩
      · exact ⟨_, _, rfl⟩
      · exact ⟨_, _, by rw [h0]⟩
    have hx : xs = [] := List.eq_nil_of_length_eq_zero h0
    clear h h0 hl
    go_enter Tryz.func201, Tryz.ntmps201
    go_wp2_with fail
    go_ret
    exact ⟨_, rfl, .inl ⟨rfl, hx⟩, Below.refl _ _⟩
  · rcases h with ⟨_, rfl⟩ | ⟨b, off, cap, rfl, hb, hlt, hc, hm, hcell⟩
    · simp at h0
    · have hsrc : ∀ j u, (xs.map (Value.int .i64))[j]? = some u → w.cell? ((⟨b, off, none⟩ : Addr).add j) = some u := by
        intro j u hu
        rw [List.getElem?_map] at hu
        cases hq : xs[j]? with
        | none => rw [hq] at hu; cases hu
        | some z =>
          rw [hq] at hu
          simp at hu
          subst hu
          have hj : j < xs.length := (List.getElem?_eq_some_iff.1 hq).1
          rw [add_at, hcell j hj, List.getD_eq_getElem?_getD, hq]
          rfl
      have Hsrc := Lib.hid hsrc
      obtain ⟨n, hn⟩ : ∃ n, xs.length = n := ⟨_, rfl⟩
      have Hn := Lib.hid hn
      rw [hn] at hl h0
      rw [hn]
      have hz : ((n : Int) == 0) = false := by simp; omega
      clear hcell hsrc hn hc hm
      go_enter Tryz.func201, Tryz.ntmps201
      go_wp2_with (first
        | (at_make; refine wpList_make_full _ rfl _ _ 84 rfl w.heap.size 46 i0 (.int .i64 0) 1 Tryz.underlying84 hi hz0 hz1 .i64 .i64 _ _ n rfl rfl rfl rfl (by rw [hz2]; omega) (by unfold maxLen; omega) (Nat.le_refl _) ?_; intro w0 hown0 hgrow0)
        | (refine wpList_copy_full rfl (.tmp 10) (.tmp 11) 84 84 rfl w.heap.size 46 i0 1 Tryz.underlying84 hi hz1 w.heap.size n _ rfl hown0 ⟨b, off, none⟩ cap rfl (xs.map (Value.int .i64)) ?c1 ?c2 ?c3 ?_))
      case c1 => have := Hn.out; simp; omega
      case c2 =>
        intro j u hu
        exact cell_later ((Below.refl _ _).grown hgrow0 (Nat.le_refl _) (fun k hk => by cases hk)) (Hsrc.out j u hu)
      case c3 => intro u hu; simp at hu; obtain ⟨z, _, rfl⟩ := hu; rfl
      intro w1 hown1 hgrow1
      have hb0 : Below w.heap.size w w0 := (Below.refl _ _).grown hgrow0 (Nat.le_refl _) (fun k hk => by cases hk)
      have hb1 := hb0.grown hgrow1 hb0.size (fun k hk => by injection hk with hk; omega)
      have R := Lib.hid (refsAt_of_own hown1)
      have HB := Lib.hid hb1
      clear hown0 hown1 hgrow0 hgrow1 hb0 hb1
      go_wp2_with fail
      go_ret
      exact ⟨_, rfl, R.out, HB.out⟩

set_option maxRecDepth 100000 in
set_option maxHeartbeats 800000 in
theorem copiedPairs_any (N : Nat → Prop) (w : World) (v : Value) (xs : List Ct.Pair) (h : PairsAt N w v xs) (hl : xs.length ≤ 1000000) :
    Calls Tryz.prog 202 #[v] w (CopyPairs w xs) := by
  obtain ⟨i0, hi, hz0, hz1, hz2⟩ := info_parts info_Pair
  by_cases h0 : xs.length = 0
  · obtain ⟨a, cap, rfl⟩ : ∃ a cap, v = .slice a 0 cap := by
      rcases h with ⟨rfl, _⟩ | ⟨b, off, cap, rfl, _⟩
      · exact ⟨_, _, rfl⟩
      · exact ⟨_, _, by rw [h0]⟩
    have hx : xs = [] := List.eq_nil_of_length_eq_zero h0
    clear h h0 hl
    go_enter Tryz.func202, Tryz.ntmps202
    go_wp2_with fail
    go_ret
    exact ⟨_, rfl, .inl ⟨rfl, hx⟩, Below.refl _ _⟩
  · rcases h with ⟨_, rfl⟩ | ⟨b, off, cap, rfl, hb, hlt, hc, hm, hcell⟩
    · simp at h0
    · have hsrc : ∀ j u, (pairCells xs)[j]? = some u → w.cell? ((⟨b, off, none⟩ : Addr).add j) = some u := by
        intro j u hu
        have hj2 : j < xs.length * 2 := by rw [← pairCells_length]; exact (List.getElem?_eq_some_iff.1 hu).1
        have hq : j / 2 < xs.length := by omega
        rw [add_at]
        rcases Nat.mod_two_eq_zero_or_one j with e | e
        · obtain ⟨q, rfl⟩ : ∃ q, j = 2 * q := ⟨j / 2, by omega⟩
          have hq' : q < xs.length := by omega
          rw [pairCells_key, List.getElem?_eq_getElem hq'] at hu
          rw [(hcell q hq').1, ← hu, List.getD_eq_getElem?_getD, List.getElem?_eq_getElem hq']
          rfl
        · have ej : j = 2 * (j / 2) + 1 := by omega
          rw [ej] at hu ⊢
          rw [pairCells_value, List.getElem?_eq_getElem hq] at hu
          have := (hcell (j / 2) hq).2
          rw [← Nat.add_assoc, this, ← hu, List.getD_eq_getElem?_getD, List.getElem?_eq_getElem hq]
          rfl
      have Hsrc := Lib.hid hsrc
      obtain ⟨n, hn⟩ : ∃ n, xs.length = n := ⟨_, rfl⟩
      have Hn := Lib.hid hn
      rw [hn] at hl h0
      rw [hn]
      have hz : ((n : Int) == 0) = false := by simp; omega
      clear hcell hsrc hn hc hm
      go_enter Tryz.func202, Tryz.ntmps202
      go_wp2_with (first
        | (at_make; refine wpList_make_full _ rfl _ _ 129 rfl w.heap.size 188 i0 (.agg #[.string .empty, .int .u64 0]) 2 Tryz.underlying129 hi hz0 hz1 .i64 .i64 _ _ n rfl rfl rfl rfl (by rw [hz2]; omega) (by unfold maxLen; omega) (Nat.le_refl _) ?_; intro w0 hown0 hgrow0)
        | (refine wpList_copy_full rfl (.tmp 10) (.tmp 11) 129 129 rfl w.heap.size 188 i0 2 Tryz.underlying129 hi hz1 w.heap.size n _ rfl hown0 ⟨b, off, none⟩ cap rfl (pairCells xs) ?c1 ?c2 (pairCells_one xs) ?_))
      case c1 => have := Hn.out; rw [pairCells_length]; omega
      case c2 =>
        intro j u hu
        exact cell_later ((Below.refl _ _).grown hgrow0 (Nat.le_refl _) (fun k hk => by cases hk)) (Hsrc.out j u hu)
      intro w1 hown1 hgrow1
      have hb0 : Below w.heap.size w w0 := (Below.refl _ _).grown hgrow0 (Nat.le_refl _) (fun k hk => by cases hk)
      have hb1 := hb0.grown hgrow1 hb0.size (fun k hk => by injection hk with hk; omega)
      have R := Lib.hid (pairsAt_of_own hown1)
      have HB := Lib.hid hb1
      clear hown0 hown1 hgrow0 hgrow1 hb0 hb1
      go_wp2_with fail
      go_ret
      exact ⟨_, rfl, R.out, HB.out⟩
end Go.Proofs.YtifehcegnofpkaaGreatDoor
