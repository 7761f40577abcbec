/- Plain facts on the list of the elements. -/
import Derived.Test.YtldmkoabkiphoaaDoorBm
namespace Go.Bm
theorem mem_indicesTo (n b j : Nat) : j ∈ indicesTo n b ↔ j < n ∧ b.testBit j = true := by
  unfold indicesTo
  rw [List.mem_filter, List.mem_range]
theorem sorted_indicesTo (n b : Nat) : (indicesTo n b).Pairwise (· < ·) := by
  unfold indicesTo
  exact List.Pairwise.filter _ List.pairwise_lt_range
theorem indicesTo_prefix (b i : Nat) : ∀ d, ∃ t, indicesTo (i + d) b = indicesTo i b ++ t
  | 0 => ⟨[], by simp⟩
  | d + 1 => by
    obtain ⟨t, ht⟩ := indicesTo_prefix b i d
    exact ⟨_, by rw [← Nat.add_assoc, indicesTo_succ, ht, List.append_assoc]⟩

/-- The element at place p has p elements below it. -/
theorem position_at (b p : Nat) (hp : p < (indices b).length) : pop ((indices b)[p]) b = p := by
  have hm : (indices b)[p] ∈ indices b := List.getElem_mem hp
  have hs := sorted_indicesTo 64 b
  have hmi := (mem_indicesTo 64 b _).1 hm
  generalize hi : (indices b)[p] = i at *
  rw [← length_indicesTo]
  obtain ⟨d, hd⟩ : ∃ d, 64 = i + 1 + d := ⟨64 - i - 1, by omega⟩
  obtain ⟨t, ht⟩ := indicesTo_prefix b (i + 1) d
  have hx : indices b = indicesTo i b ++ (i :: t) := by
    unfold indices
    rw [hd, ht, indicesTo_succ, hmi.2]
    simp
  have hl : (indicesTo i b).length < (indices b).length := by rw [hx]; simp
  have he : (indices b)[(indicesTo i b).length]'hl = i := by
    simp only [hx]
    rw [List.getElem_append_right (Nat.le_refl _)]
    simp
  have hpw : (indices b).Pairwise (· < ·) := hs
  rw [List.pairwise_iff_getElem] at hpw
  apply Classical.byContradiction
  intro hne
  rcases Nat.lt_or_gt_of_ne hne with h | h
  · have := hpw _ _ hl hp h
    omega
  · have := hpw _ _ hp hl h
    omega
theorem sorted_at (b p : Nat) (hp : p + 1 < (indices b).length) : (indices b)[p]'(by omega) < (indices b)[p + 1] := by
  have hpw : (indices b).Pairwise (· < ·) := sorted_indicesTo 64 b
  rw [List.pairwise_iff_getElem] at hpw
  exact hpw p (p + 1) (by omega) hp (by omega)

/-- The set of the first k numbers of a list. -/
def orTo (xs : List Nat) : Nat → Nat
  | 0 => 0
  | k + 1 => orTo xs k ||| 2 ^ xs.getD k 0
theorem orTo_zero (xs : List Nat) : orTo xs 0 = 0 := rfl
theorem orTo_succ (xs : List Nat) (k : Nat) : orTo xs (k + 1) = orTo xs k ||| 2 ^ xs.getD k 0 := rfl
theorem testBit_orTo (xs : List Nat) (j : Nat) : ∀ k, (orTo xs k).testBit j = true ↔ ∃ p, p < k ∧ xs.getD p 0 = j
  | 0 => by rw [orTo_zero]; simp
  | k + 1 => by
    rw [orTo_succ, Nat.testBit_or, Nat.testBit_two_pow, Bool.or_eq_true, testBit_orTo xs j k]
    constructor
    · rintro (⟨p, h1, h2⟩ | h)
      · exact ⟨p, by omega, h2⟩
      · exact ⟨k, by omega, by simpa using h⟩
    · rintro ⟨p, h1, h2⟩
      by_cases hpk : p = k
      · subst hpk; exact .inr (by simpa using h2)
      · exact .inl ⟨p, by omega, h2⟩
theorem orTo_all (b : Nat) (hb : b < 2 ^ 64) : orTo (indices b) (indices b).length = b := by
  apply Nat.eq_of_testBit_eq
  intro j
  rw [Bool.eq_iff_iff, testBit_orTo]
  constructor
  · rintro ⟨p, h1, h2⟩
    rw [List.getD_eq_getElem?_getD, List.getElem?_eq_getElem h1] at h2
    have := List.getElem_mem h1
    simp only [Option.getD_some] at h2
    rw [h2] at this
    exact ((mem_indicesTo 64 b j).1 this).2
  · intro h
    have hj : j < 64 := by
      apply Classical.byContradiction
      intro hn
      have := Nat.ge_two_pow_of_testBit h
      have h2 : 2 ^ 64 ≤ 2 ^ j := Nat.pow_le_pow_right (by decide) (by omega)
      omega
    have hm : j ∈ indices b := (mem_indicesTo 64 b j).2 ⟨hj, h⟩
    obtain ⟨p, hp, he⟩ := List.getElem_of_mem hm
    exact ⟨p, hp, by rw [List.getD_eq_getElem?_getD, List.getElem?_eq_getElem hp]; exact he⟩
theorem orTo_lt (b : Nat) (_hb : b < 2 ^ 64) : ∀ k, k ≤ (indices b).length → orTo (indices b) k < 2 ^ 64
  | 0, _ => by rw [orTo_zero]; decide
  | k + 1, h => by
    rw [orTo_succ]
    have hk : k < (indices b).length := by omega
    have hm := ((mem_indicesTo 64 b _).1 (List.getElem_mem hk : (indices b)[k] ∈ indices b)).1
    have e : (indices b).getD k 0 = (indices b)[k] := by rw [List.getD_eq_getElem?_getD, List.getElem?_eq_getElem hk]; rfl
    rw [e]
    exact Nat.or_lt_two_pow (orTo_lt b _hb k (by omega)) (Nat.pow_lt_pow_right (by decide) hm)
/-- What the statement BitmapPositions asks of the element at place p. -/
theorem at_place (b p : Nat) (hp : p < (indices b).length) :
    (indices b).getD p 0 < 64 ∧ position b (((indices b).getD p 0 : Nat) : Int) = p ∧ at_ b (p : Int) = (((indices b).getD p 0 : Nat) : Int) ∧ has b (((indices b).getD p 0 : Nat) : Int) = true ∧ (0 < p → (indices b).getD (p - 1) 0 < (indices b).getD p 0) := by
  have e : (indices b).getD p 0 = (indices b)[p] := by rw [List.getD_eq_getElem?_getD, List.getElem?_eq_getElem hp]; rfl
  have hm := (mem_indicesTo 64 b _).1 (List.getElem_mem hp : (indices b)[p] ∈ indices b)
  have hq := position_at b p hp
  rw [e]
  refine ⟨hm.1, ?_, ?_, ?_, ?_⟩
  · have hc : cut (((indices b)[p] : Nat) : Int) = (indices b)[p] := by
      unfold cut
      split
      · omega
      · split <;> omega
    unfold position
    rw [hc, hq]
  · unfold at_
    rw [if_pos ⟨by omega, by omega⟩, Int.toNat_natCast, e]
  · rw [has_nat _ _ hm.1]; exact hm.2
  · intro h0
    obtain ⟨q, rfl⟩ : ∃ q, p = q + 1 := ⟨p - 1, by omega⟩
    have := sorted_at b q hp
    simp only [Nat.add_sub_cancel]
    rw [List.getD_eq_getElem?_getD, List.getElem?_eq_getElem (by omega)]
    exact this
attribute [irreducible] orTo
end Go.Bm
