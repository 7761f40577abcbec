/- The walk of ctriehelp.Equal of numbers. -/
import Derived.Test.YtldmkoabkiphoaaDoorBmRef2
import Derived.WalkSmall
namespace Go.Proofs.YtldmkoabkiphoaaDoor
open Go.RowKit

/-- A slice that reads as a list of numbers. -/
def ReadsInts (w : World) (v : Value) (xs : List Nat) : Prop :=
  (v = .slice none 0 0 ∧ xs = []) ∨ ∃ g cap, v = .slice (some ⟨g, 0, none⟩) xs.length cap ∧ ∀ j, j < xs.length → w.cell? ⟨g, j, none⟩ = some (.int .i64 ((xs.getD j 0 : Nat) : Int))

theorem ReadsInts.of_own {base : Nat} {xs : List Nat} {v : Value} {w' : World} (h : w'.ownsRow base 3 1 v xs.length (intVals xs)) : ReadsInts w' v xs := by
  rcases h.2 with ⟨hv, hn⟩ | ⟨g, cap, cur, hv, _⟩
  · exact .inl ⟨hv, List.eq_nil_of_length_eq_zero hn⟩
  · refine .inr ⟨g, cap, hv, fun j hj => ?_⟩
    have := h.cells (g := g) (by rw [hv]; rfl) j (.int .i64 ((xs.getD j 0 : Nat) : Int)) (by
      unfold intVals
      rw [List.getElem?_map, List.getD_eq_getElem?_getD, List.getElem?_eq_getElem hj]
      rfl)
    rw [← this]
    congr 1
    simp [Addr.add]
theorem ReadsInts.later {w wx : World} {v : Value} {xs : List Nat} (h : ReadsInts w v xs) (hb : Below w.heap.size w wx) : ReadsInts wx v xs := by
  rcases h with h | ⟨g, cap, hv, hc⟩
  · exact .inl h
  · exact .inr ⟨g, cap, hv, fun j hj => cell_later hb (hc j hj)⟩

set_option maxHeartbeats 800000 in
theorem equal_same (g1 cap1 g2 cap2 : Nat) (xs : List Nat) (w : World) (hl : xs.length ≤ 1000000)
    (hc1 : ∀ j, j < xs.length → w.cell? ⟨g1, j, none⟩ = some (.int .i64 ((xs.getD j 0 : Nat) : Int)))
    (hc2 : ∀ j, j < xs.length → w.cell? ⟨g2, j, none⟩ = some (.int .i64 ((xs.getD j 0 : Nat) : Int))) :
    Calls Tryd.prog 22 #[.slice (some ⟨g1, 0, none⟩) xs.length cap1, .slice (some ⟨g2, 0, none⟩) xs.length cap2] w fun e w' => e = .returned (.bool true) ∧ Below w.heap.size w w' := by
  have H1 := Lib.hid hc1
  have H2 := Lib.hid hc2
  obtain ⟨n, hn⟩ : ∃ n, xs.length = n := ⟨_, rfl⟩
  rw [hn] at hl ⊢
  have Hn := Lib.hid hn
  clear hc1 hc2 hn
  go_enter Tryd.func22, Tryd.ntmps22
  go_wp2_with fail
  go_loopw [5] (fun i wr => ∃ k : Nat, k ≤ n ∧ i = .int .i64 k ∧ Below w.heap.size w wr) (fun i _ => n - (intOf i).toNat)
  case atStart => exact ⟨0, Nat.zero_le _, rfl, Below.refl _ _⟩
  case round =>
    obtain ⟨k, hk, rfl, hB⟩ := hrel
    have HB := Lib.hid hB
    clear hB
    by_cases hlt : k < n
    · have c1 := cell_later HB.out (H1.out k (by rw [Hn.out]; exact hlt))
      have c2 := cell_later HB.out (H2.out k (by rw [Hn.out]; exact hlt))
      generalize xs.getD k 0 = z at c1 c2
      have i1 : (0 : Int) ≤ (k : Int) := by omega
      have i2 : (k : Int) < (n : Int) := by omega
      go_wp2_with fail
      go_quiet (fail)
      go_wp2_with fail
      go_roundw
      case rel => exact ⟨k + 1, by omega, by go_num, below_drewN HB.out _⟩
      case measure => simp [intOf]; omega
    · go_wp2_with fail
      go_ret
      exact ⟨rfl, HB.out⟩

set_option maxHeartbeats 800000 in
theorem equal_nil (v1 v2 : Value) (w : World) (h1 : v1 = .slice none 0 0 ∨ ∃ a c, v1 = .slice (some a) 0 c) (h2 : v2 = .slice none 0 0 ∨ ∃ a c, v2 = .slice (some a) 0 c) :
    Calls Tryd.prog 22 #[v1, v2] w fun e w' => e = .returned (.bool true) ∧ Below w.heap.size w w' := by
  rcases h1 with rfl | ⟨a1, c1, rfl⟩ <;> rcases h2 with rfl | ⟨a2, c2, rfl⟩
  all_goals
    go_enter Tryd.func22, Tryd.ntmps22
    go_wp2_with fail
    refine wp_loop_rounds 1 ?_
    rw [rounds_succ]
    go_wp2_with fail
    go_ret
    exact ⟨rfl, Below.refl _ _⟩

/-- Two slices that read as the same list are equal. -/
theorem equal_any (v1 v2 : Value) (xs : List Nat) (w : World) (hl : xs.length ≤ 1000000) (h1 : ReadsInts w v1 xs) (h2 : ReadsInts w v2 xs) :
    Calls Tryd.prog 22 #[v1, v2] w fun e w' => e = .returned (.bool true) ∧ Below w.heap.size w w' := by
  rcases h1 with ⟨rfl, rfl⟩ | ⟨g1, cap1, rfl, hc1⟩
  · rcases h2 with ⟨rfl, _⟩ | ⟨g2, cap2, rfl, hc2⟩
    · exact equal_nil _ _ w (.inl rfl) (.inl rfl)
    · exact equal_nil _ _ w (.inl rfl) (.inr ⟨_, _, rfl⟩)
  · rcases h2 with ⟨rfl, rfl⟩ | ⟨g2, cap2, rfl, hc2⟩
    · exact equal_nil _ _ w (.inr ⟨_, _, rfl⟩) (.inl rfl)
    · exact equal_same g1 cap1 g2 cap2 xs w hl hc1 hc2
end Go.Proofs.YtldmkoabkiphoaaDoor
