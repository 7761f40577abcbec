/- Plain facts on bitmaps: numbers below 2^64 as sets of bits. Nothing of the program. -/
import Derived.Lib.TrailingZeros
namespace Go.Bm

/-- The number of set bits among the lowest n. -/
def pop : Nat → Nat → Nat
  | 0, _ => 0
  | n + 1, x => x % 2 + pop n (x / 2)

theorem pop_le : ∀ n x, pop n x ≤ n
  | 0, _ => Nat.le_refl _
  | n + 1, x => by
    have := pop_le n (x / 2)
    simp only [pop]
    omega

theorem pop_add : ∀ m n x, pop (m + n) x = pop m x + pop n (x / 2 ^ m)
  | 0, n, x => by simp [pop]
  | m + 1, n, x => by
    rw [Nat.add_right_comm]
    simp only [pop]
    rw [pop_add m n (x / 2), Nat.div_div_eq_div_mul, Nat.pow_succ, Nat.mul_comm 2 (2 ^ m)]
    omega

theorem pop_succ (n x : Nat) : pop (n + 1) x = pop n x + x / 2 ^ n % 2 := by
  rw [pop_add n 1 x]
  simp [pop]

/-! ### The parallel count -/

theorem and_step (k x lo m : Nat) (h : lo < 2 ^ k) : x &&& (lo + 2 ^ k * m) = (x % 2 ^ k &&& lo) + 2 ^ k * (x / 2 ^ k &&& m) := by
  have h1 : (x &&& (lo + 2 ^ k * m)) % 2 ^ k = x % 2 ^ k &&& lo := by
    rw [Nat.and_mod_two_pow, Nat.add_mul_mod_self_left, Nat.mod_eq_of_lt h]
  have h2 : (x &&& (lo + 2 ^ k * m)) / 2 ^ k = x / 2 ^ k &&& m := by
    rw [Nat.and_div_two_pow, Nat.add_mul_div_left _ _ (Nat.two_pow_pos k), Nat.div_eq_of_lt h, Nat.zero_add]
  rw [← h1, ← h2]
  exact (Nat.mod_add_div _ _).symm

theorem and_low (s x : Nat) : x &&& (2 ^ s - 1) = x % 2 ^ s := Nat.and_two_pow_sub_one_eq_mod x s

def mask1 : Nat → Nat
  | 0 => 0
  | n + 1 => 1 + 2 ^ 2 * mask1 n
def mask2 : Nat → Nat
  | 0 => 0
  | n + 1 => 3 + 2 ^ 4 * mask2 n
def mask4 : Nat → Nat
  | 0 => 0
  | n + 1 => 15 + 2 ^ 8 * mask4 n

def sum1 : Nat → Nat → Nat
  | 0, _ => 0
  | n + 1, x => (x % 2 + x / 2 % 2) + 4 * sum1 n (x / 4)
def sum2 : Nat → Nat → Nat
  | 0, _ => 0
  | n + 1, x => pop 4 x + 16 * sum2 n (x / 16)
def sum4 : Nat → Nat → Nat
  | 0, _ => 0
  | n + 1, x => pop 8 x + 256 * sum4 n (x / 256)

theorem step1 : ∀ n x, (x / 2 &&& mask1 n) + (x &&& mask1 n) = sum1 n x
  | 0, x => by simp [mask1, sum1]
  | n + 1, x => by
    have ih := step1 n (x / 4)
    simp only [mask1, sum1]
    rw [and_step 2 (x / 2) 1 _ (by decide), and_step 2 x 1 _ (by decide)]
    have a1 : x / 2 % 2 ^ 2 &&& 1 = x / 2 % 2 := by
      rw [show (1 : Nat) = 2 ^ 1 - 1 from rfl, and_low]; omega
    have a2 : x % 2 ^ 2 &&& 1 = x % 2 := by
      rw [show (1 : Nat) = 2 ^ 1 - 1 from rfl, and_low]; omega
    have e1 : x / 2 / 2 ^ 2 = x / 4 / 2 := by omega
    have e2 : x / 2 ^ 2 = x / 4 := by omega
    rw [a1, a2, e1, e2]
    omega

theorem sum1_two (n x : Nat) : sum1 (n + 1 + 1) x = (x % 2 + x / 2 % 2) + 4 * (x / 4 % 2 + x / 8 % 2) + 16 * sum1 n (x / 16) := by
  simp only [sum1]
  have e : x / 4 / 4 = x / 16 := by omega
  have e3 : x / 4 / 2 = x / 8 := by omega
  rw [e, e3]
  omega

theorem pop4 (x : Nat) : pop 4 x = x % 2 + x / 2 % 2 + (x / 4 % 2 + x / 8 % 2) := by
  simp only [pop]
  have e2 : x / 2 / 2 = x / 4 := by omega
  have e3 : x / 4 / 2 = x / 8 := by omega
  rw [e2, e3]
  omega

theorem step2 : ∀ n x, (sum1 (2 * n) x / 4 &&& mask2 n) + (sum1 (2 * n) x &&& mask2 n) = sum2 n x
  | 0, x => by simp [mask2, sum2]
  | n + 1, x => by
    have ih := step2 n (x / 16)
    have e : 2 * (n + 1) = 2 * n + 1 + 1 := by omega
    rw [e, sum1_two]
    simp only [mask2, sum2]
    rw [pop4]
    generalize sum1 (2 * n) (x / 16) = Y at *
    generalize hp0 : x % 2 + x / 2 % 2 = p0
    generalize hp1 : x / 4 % 2 + x / 8 % 2 = p1
    have b0 : p0 ≤ 2 := by omega
    have b1 : p1 ≤ 2 := by omega
    rw [and_step 4 _ 3 _ (by decide), and_step 4 _ 3 _ (by decide)]
    have a1 : (p0 + 4 * p1 + 16 * Y) / 4 % 2 ^ 4 &&& 3 = p1 := by
      rw [show (3 : Nat) = 2 ^ 2 - 1 from rfl, and_low]; omega
    have a2 : (p0 + 4 * p1 + 16 * Y) % 2 ^ 4 &&& 3 = p0 := by
      rw [show (3 : Nat) = 2 ^ 2 - 1 from rfl, and_low]; omega
    have e1 : (p0 + 4 * p1 + 16 * Y) / 4 / 2 ^ 4 = Y / 4 := by omega
    have e2 : (p0 + 4 * p1 + 16 * Y) / 2 ^ 4 = Y := by omega
    rw [a1, a2, e1, e2]
    omega

theorem sum2_two (n x : Nat) : sum2 (n + 1 + 1) x = pop 4 x + 16 * pop 4 (x / 16) + 256 * sum2 n (x / 256) := by
  simp only [sum2]
  have e : x / 16 / 16 = x / 256 := by omega
  rw [e]
  omega

theorem pop8 (x : Nat) : pop 8 x = pop 4 x + pop 4 (x / 16) := by
  have := pop_add 4 4 x
  simpa using this

theorem sum2_low : ∀ n x, sum2 n x % 16 ≤ 4
  | 0, _ => by simp [sum2]
  | n + 1, x => by
    have := pop_le 4 x
    simp only [sum2]
    omega

theorem step4 : ∀ n x, (sum2 (2 * n) x / 16 + sum2 (2 * n) x) &&& mask4 n = sum4 n x
  | 0, x => by simp [mask4, sum4]
  | n + 1, x => by
    have ih := step4 n (x / 256)
    have e : 2 * (n + 1) = 2 * n + 1 + 1 := by omega
    rw [e, sum2_two]
    simp only [mask4, sum4]
    rw [pop8]
    have hY := sum2_low (2 * n) (x / 256)
    generalize sum2 (2 * n) (x / 256) = Y at *
    have b0 := pop_le 4 x
    have b1 := pop_le 4 (x / 16)
    generalize pop 4 x = p0 at *
    generalize pop 4 (x / 16) = p1 at *
    rw [and_step 8 _ 15 _ (by decide)]
    have a1 : ((p0 + 16 * p1 + 256 * Y) / 16 + (p0 + 16 * p1 + 256 * Y)) % 2 ^ 8 &&& 15 = p0 + p1 := by
      rw [show (15 : Nat) = 2 ^ 4 - 1 from rfl, and_low]; omega
    have e1 : ((p0 + 16 * p1 + 256 * Y) / 16 + (p0 + 16 * p1 + 256 * Y)) / 2 ^ 8 = Y / 16 + Y := by omega
    rw [a1, e1, ih]

theorem sum1_lt : ∀ n x, sum1 n x < 4 ^ n
  | 0, _ => by simp [sum1]
  | n + 1, x => by
    have := sum1_lt n (x / 4)
    simp only [sum1, Nat.pow_succ]
    omega
theorem sum2_lt : ∀ n x, sum2 n x * 15 + 4 ≤ 4 * 16 ^ n
  | 0, _ => by simp [sum2]
  | n + 1, x => by
    have := sum2_lt n (x / 16)
    have := pop_le 4 x
    simp only [sum2, Nat.pow_succ]
    omega

theorem sum4_eight (x : Nat) : ∃ p0 p1 p2 p3 p4 p5 p6 p7, p0 ≤ 8 ∧ p1 ≤ 8 ∧ p2 ≤ 8 ∧ p3 ≤ 8 ∧ p4 ≤ 8 ∧ p5 ≤ 8 ∧ p6 ≤ 8 ∧ p7 ≤ 8 ∧
    sum4 8 x = p0 + 256 * (p1 + 256 * (p2 + 256 * (p3 + 256 * (p4 + 256 * (p5 + 256 * (p6 + 256 * p7)))))) ∧ pop 64 x = p0 + p1 + p2 + p3 + p4 + p5 + p6 + p7 := by
  refine ⟨pop 8 x, pop 8 (x / 256), pop 8 (x / 256 / 256), pop 8 (x / 256 / 256 / 256), pop 8 (x / 256 / 256 / 256 / 256), pop 8 (x / 256 / 256 / 256 / 256 / 256), pop 8 (x / 256 / 256 / 256 / 256 / 256 / 256), pop 8 (x / 256 / 256 / 256 / 256 / 256 / 256 / 256), pop_le _ _, pop_le _ _, pop_le _ _, pop_le _ _, pop_le _ _, pop_le _ _, pop_le _ _, pop_le _ _, by simp [sum4], ?_⟩
  rw [show (64 : Nat) = 8 + (8 + (8 + (8 + (8 + (8 + (8 + 8)))))) from rfl]
  simp only [pop_add, show (2 : Nat) ^ 8 = 256 from rfl]
  omega

theorem div_of (a b c : Nat) (h : a < c) : (a + c * b) / c = b := by
  rw [Nat.add_mul_div_left _ _ (by omega), Nat.div_eq_of_lt h, Nat.zero_add]

theorem fold_a (a b c y : Nat) (h : a < c) (e : y = a + c * b) : y + y / c = (a + b) + c * b := by
  rw [e, div_of a b c h]; omega

theorem fold_id1 (p0 p1 p2 p3 p4 p5 p6 p7 : Nat) : p0 + (p1 + 256 * (p2 + 256 * (p3 + 256 * (p4 + 256 * (p5 + 256 * (p6 + 256 * p7)))))) + 256 * (p1 + 256 * (p2 + 256 * (p3 + 256 * (p4 + 256 * (p5 + 256 * (p6 + 256 * p7)))))) =
    (p0 + p1 + 256 * (p1 + p2)) + 65536 * ((p2 + p3) + 256 * (p3 + p4) + 65536 * (p4 + p5) + 16777216 * (p5 + p6) + 4294967296 * (p6 + p7) + 1099511627776 * p7) := by omega
theorem fold_id2 (p0 p1 p2 p3 p4 p5 p6 p7 : Nat) : (p0 + p1 + 256 * (p1 + p2)) + ((p2 + p3) + 256 * (p3 + p4) + 65536 * (p4 + p5) + 16777216 * (p5 + p6) + 4294967296 * (p6 + p7) + 1099511627776 * p7) + 65536 * ((p2 + p3) + 256 * (p3 + p4) + 65536 * (p4 + p5) + 16777216 * (p5 + p6) + 4294967296 * (p6 + p7) + 1099511627776 * p7) =
    ((p0 + p1 + p2 + p3) + 256 * (p1 + p2 + p3 + p4) + 65536 * (p2 + p3 + p4 + p5) + 16777216 * (p3 + p4 + p5 + p6)) + 4294967296 * ((p4 + p5 + p6 + p7) + 256 * (p5 + p6 + p7) + 65536 * (p6 + p7) + 16777216 * p7) := by omega
theorem fold_id3 (p0 p1 p2 p3 p4 p5 p6 p7 X : Nat) : ((p0 + p1 + p2 + p3) + 256 * (p1 + p2 + p3 + p4) + 65536 * (p2 + p3 + p4 + p5) + 16777216 * (p3 + p4 + p5 + p6)) + ((p4 + p5 + p6 + p7) + 256 * (p5 + p6 + p7) + 65536 * (p6 + p7) + 16777216 * p7) + 4294967296 * X =
    (p0 + p1 + p2 + p3 + p4 + p5 + p6 + p7) + 128 * (2 * ((p1 + p2 + p3 + p4) + (p5 + p6 + p7) + 256 * ((p2 + p3 + p4 + p5) + (p6 + p7)) + 65536 * (p3 + p4 + p5 + p6 + p7) + 16777216 * X)) := by omega
theorem fold8 (x : Nat) : ∃ y1 y2 y3 : Nat, y1 = sum4 8 x + sum4 8 x / 256 ∧ y2 = y1 + y1 / 65536 ∧ y3 = y2 + y2 / 4294967296 ∧
    y1 < 18446744073709551616 ∧ y2 < 18446744073709551616 ∧ y3 < 18446744073709551616 ∧ y3 % 128 = pop 64 x := by
  obtain ⟨p0, p1, p2, p3, p4, p5, p6, p7, b0, b1, b2, b3, b4, b5, b6, b7, e, ep⟩ := sum4_eight x
  have g1 := fold_a p0 _ 256 _ (by omega) e
  rw [fold_id1] at g1
  have g2 := fold_a _ _ 65536 _ (by omega) g1
  rw [fold_id2] at g2
  have g3 := fold_a _ _ 4294967296 _ (by omega) g2
  refine ⟨_, _, _, rfl, rfl, rfl, ?_, ?_, ?_, ?_⟩
  · rw [g1]; clear g1 g2 g3 e ep; omega
  · rw [g2]; clear g1 g2 g3 e ep; omega
  · rw [g3]; clear g1 g2 g3 e ep; omega
  · rw [g3, fold_id3, ep]
    clear g1 g2 g3 e ep
    rw [Nat.add_mul_mod_self_left]
    exact Nat.mod_eq_of_lt (by omega)

theorem masks : mask1 32 = 6148914691236517205 ∧ mask2 16 = 3689348814741910323 ∧ mask4 8 = 1085102592571150095 := by decide

/-! ### Single bits -/

theorem testBit_div (b i : Nat) : b.testBit i = decide (b / 2 ^ i % 2 = 1) := by
  rw [Nat.testBit_eq_decide_div_mod_eq]

theorem bit_toNat (b i : Nat) : b / 2 ^ i % 2 = (b.testBit i).toNat := by
  rw [testBit_div]
  by_cases h : b / 2 ^ i % 2 = 1
  · simp [h]
  · simp [h]; omega

/-- Has: i is from 0 to 63, and its bit is set. -/
def has (b : Nat) (i : Int) : Bool := decide (0 ≤ i) && (decide (i < 64) && b.testBit i.toNat)
/-- A number, brought into the range from 0 to 64. -/
def cut (i : Int) : Nat := if i ≤ 0 then 0 else if 64 ≤ i then 64 else i.toNat
/-- Position: the number of elements below i. -/
def position (b : Nat) (i : Int) : Nat := pop (cut i) b
/-- With: the set with i. -/
def withE (b : Nat) (i : Int) : Nat := if 0 ≤ i ∧ i < 64 then b ||| 2 ^ i.toNat else b
/-- Without: the set without i. -/
def withoutE (b : Nat) (i : Int) : Nat := if has b i = true then b - 2 ^ i.toNat else b
/-- The elements below n, ascending. -/
def indicesTo (n b : Nat) : List Nat := (List.range n).filter fun i => b.testBit i
def indices (b : Nat) : List Nat := indicesTo 64 b
/-- At: the element at a position, or -1. -/
def at_ (b : Nat) (p : Int) : Int := if 0 ≤ p ∧ p < (indices b).length then ((indices b).getD p.toNat 0 : Nat) else -1

theorem pop_testBit (n b : Nat) : pop (n + 1) b = pop n b + (b.testBit n).toNat := by
  rw [pop_succ, bit_toNat]

theorem pop_congr : ∀ n b c, (∀ i, i < n → b.testBit i = c.testBit i) → pop n b = pop n c
  | 0, _, _, _ => rfl
  | n + 1, b, c, h => by
    rw [pop_testBit, pop_testBit, pop_congr n b c (fun i hi => h i (by omega)), h n (by omega)]

theorem pop_mod (i b : Nat) (h : i ≤ 64) : pop 64 (b % 2 ^ i) = pop i b := by
  obtain ⟨d, hd⟩ : ∃ d, 64 = i + d := ⟨64 - i, by omega⟩
  rw [hd, pop_add]
  have e : b % 2 ^ i / 2 ^ i = 0 := Nat.div_eq_of_lt (Nat.mod_lt _ (Nat.two_pow_pos i))
  rw [e]
  have z : ∀ n, pop n 0 = 0 := by
    intro n; induction n with
    | zero => rfl
    | succ n ih => simp [pop, ih]
  rw [z, Nat.add_zero]
  apply pop_congr
  intro j hj
  rw [Nat.testBit_mod_two_pow]
  simp [hj]

theorem length_indicesTo (n b : Nat) : (indicesTo n b).length = pop n b := by
  induction n with
  | zero => rfl
  | succ n ih =>
    rw [pop_testBit, ← ih]
    unfold indicesTo
    rw [List.range_succ, List.filter_append, List.length_append]
    cases h : b.testBit n <;> simp [h]

theorem length_indices (b : Nat) : (indices b).length = pop 64 b := length_indicesTo 64 b

theorem testBit_sub_pow (b i j : Nat) (h : b.testBit i = true) : (b - 2 ^ i).testBit j = (b.testBit j && !decide (i = j)) := by
  have h1 : b / 2 ^ i % 2 = 1 := by rw [Nat.testBit_eq_decide_div_mod_eq] at h; simpa using h
  have hr : b % 2 ^ i < 2 ^ i := Nat.mod_lt _ (Nat.two_pow_pos i)
  obtain ⟨q, hq⟩ : ∃ q, b / 2 ^ i = 2 * q + 1 := ⟨b / 2 ^ i / 2, by omega⟩
  have hb : b = 2 ^ i * (2 * q + 1) + b % 2 ^ i := by rw [← hq]; exact (Nat.div_add_mod b (2 ^ i)).symm
  generalize b % 2 ^ i = r at *
  have e : b - 2 ^ i = 2 ^ i * (2 * q) + r := by rw [hb, Nat.mul_add]; omega
  rw [e]
  conv => rhs; rw [hb]
  rw [Nat.testBit_two_pow_mul_add _ hr, Nat.testBit_two_pow_mul_add _ hr]
  by_cases hj : j < i
  · have : ¬ i = j := by omega
    simp [hj, this]
  · by_cases hij : i = j
    · subst hij; simp [Nat.testBit_zero]
    · obtain ⟨d, rfl⟩ : ∃ d, j = i + (d + 1) := ⟨j - i - 1, by omega⟩
      have e3 : i + (d + 1) - i = d + 1 := by omega
      rw [if_neg hj, if_neg hj, e3, Nat.testBit_succ, Nat.testBit_succ]
      have d1 : (2 * q + 1) / 2 = q := by omega
      have d2 : 2 * q / 2 = q := by omega
      rw [d1, d2]
      simp

/-- Go's '&^'. -/
def andNot (a m : Nat) : Nat := a ^^^ (a &&& m)
theorem testBit_andNot (a m j : Nat) : (andNot a m).testBit j = (a.testBit j && !m.testBit j) := by
  unfold andNot
  rw [Nat.testBit_xor, Nat.testBit_and]
  cases a.testBit j <;> cases m.testBit j <;> rfl
theorem andNot_pow (b i : Nat) : andNot b (2 ^ i) = if b.testBit i then b - 2 ^ i else b := by
  apply Nat.eq_of_testBit_eq
  intro j
  rw [testBit_andNot, Nat.testBit_two_pow]
  by_cases h : b.testBit i = true
  · rw [if_pos h, testBit_sub_pow b i j h]
  · rw [if_neg h]
    by_cases hij : i = j
    · subst hij; simp at h; simp [h]
    · simp [hij]
theorem andNot_lt (n a m : Nat) (h : a < 2 ^ n) : andNot a m < 2 ^ n :=
  Nat.xor_lt_two_pow h (Nat.lt_of_le_of_lt Nat.and_le_left h)

theorem indicesTo_succ (n x : Nat) : indicesTo (n + 1) x = indicesTo n x ++ if x.testBit n then [n] else [] := by
  unfold indicesTo
  rw [List.range_succ, List.filter_append]
  cases h : x.testBit n <;> simp [h]

theorem indicesTo_none (n x : Nat) (h : ∀ j, j < n → x.testBit j = false) : indicesTo n x = [] := by
  induction n with
  | zero => rfl
  | succ n ih => rw [indicesTo_succ, ih (fun j hj => h j (by omega)), h n (by omega)]; rfl

theorem indicesTo_head (k x y : Nat) (h0 : ∀ j, j < k → x.testBit j = false) (h1 : x.testBit k = true) (hy : ∀ j, y.testBit j = (x.testBit j && !decide (k = j))) :
    ∀ d, indicesTo (k + 1 + d) x = k :: indicesTo (k + 1 + d) y
  | 0 => by
    rw [Nat.add_zero, indicesTo_succ, indicesTo_succ, indicesTo_none k x h0, indicesTo_none k y (fun j hj => by rw [hy, h0 j hj]; rfl), h1, hy k]
    simp
  | d + 1 => by
    rw [← Nat.add_assoc, indicesTo_succ, indicesTo_succ, indicesTo_head k x y h0 h1 hy d, hy (k + 1 + d)]
    have : ¬ k = k + 1 + d := by omega
    simp [this]

theorem low_form (x : Nat) (hx : x ≠ 0) (hlt : x < 2 ^ 64) : ∃ m, x = 2 ^ Lib.ctz 64 x * (2 * m + 1) ∧ Lib.ctz 64 x < 64 := by
  obtain ⟨m, hm, hk⟩ := Lib.ctzFrom_spec 64 x (by omega) hlt
  have e : Lib.ctz 64 x = Lib.ctzFrom 64 x := by simp [Lib.ctz, hx]
  rw [e]
  exact ⟨m, hm, hk⟩

/-- x & (x - 1): the lowest bit is gone. -/
theorem testBit_clear (k m j : Nat) : (2 ^ k * (2 * m + 1) &&& (2 ^ k * (2 * m + 1) - 1)).testBit j = ((2 ^ k * (2 * m + 1)).testBit j && !decide (k = j)) := by
  have hp := Nat.two_pow_pos k
  have e : 2 ^ k * (2 * m + 1) - 1 = 2 ^ k * (2 * m) + (2 ^ k - 1) := by rw [Nat.mul_add]; omega
  have e0 : 2 ^ k * (2 * m + 1) = 2 ^ k * (2 * m + 1) + 0 := rfl
  rw [Nat.testBit_and, e]
  rw [e0, Nat.testBit_two_pow_mul_add _ hp, Nat.testBit_two_pow_mul_add _ (by omega)]
  by_cases hj : j < k
  · simp [hj]
  · simp only [hj, if_false]
    by_cases hkj : k = j
    · subst hkj; simp [Nat.testBit_zero]
    · obtain ⟨d, rfl⟩ : ∃ d, j = k + (d + 1) := ⟨j - k - 1, by omega⟩
      have e3 : k + (d + 1) - k = d + 1 := by omega
      rw [e3, Nat.testBit_succ, Nat.testBit_succ]
      have d1 : (2 * m + 1) / 2 = m := by omega
      have d2 : 2 * m / 2 = m := by omega
      rw [d1, d2]
      simp

theorem indices_low (x : Nat) (hx : x ≠ 0) (hlt : x < 2 ^ 64) : indices x = Lib.ctz 64 x :: indices (x &&& (x - 1)) := by
  obtain ⟨m, hm, hk⟩ := low_form x hx hlt
  generalize Lib.ctz 64 x = k at *
  subst hm
  obtain ⟨d, hd⟩ : ∃ d, 64 = k + 1 + d := ⟨64 - k - 1, by omega⟩
  unfold indices
  rw [hd]
  have hp := Nat.two_pow_pos k
  have e0 : 2 ^ k * (2 * m + 1) = 2 ^ k * (2 * m + 1) + 0 := rfl
  refine indicesTo_head k _ _ (fun j hj => ?_) ?_ (fun j => testBit_clear k m j) d
  · rw [e0, Nat.testBit_two_pow_mul_add _ hp]; simp [hj]
  · rw [e0, Nat.testBit_two_pow_mul_add _ hp]; simp [Nat.testBit_zero]

theorem indices_zero : indices 0 = [] := indicesTo_none 64 0 (fun j _ => Nat.zero_testBit j)

theorem pop_zero_iff (x : Nat) (hlt : x < 2 ^ 64) : pop 64 x = 0 ↔ x = 0 := by
  rw [← length_indices]
  constructor
  · intro h
    apply Classical.byContradiction
    intro hx
    rw [indices_low x hx hlt] at h
    simp at h
  · intro h; subst h; rw [indices_zero]; rfl

/-- x after k rounds of x &= x - 1. -/
def drop : Nat → Nat → Nat
  | 0, x => x
  | k + 1, x => drop k x &&& (drop k x - 1)
theorem drop_lt (x : Nat) (h : x < 2 ^ 64) : ∀ k, drop k x < 2 ^ 64
  | 0 => h
  | k + 1 => Nat.lt_of_le_of_lt Nat.and_le_left (drop_lt x h k)
theorem indices_drop (x : Nat) (h : x < 2 ^ 64) : ∀ k, indices (drop k x) = (indices x).drop k
  | 0 => rfl
  | k + 1 => by
    have ih := indices_drop x h k
    by_cases hz : drop k x = 0
    · have : drop (k + 1) x = 0 := by show drop k x &&& _ = 0; rw [hz]; rfl
      rw [this, indices_zero]
      rw [hz, indices_zero] at ih
      rw [← List.drop_drop, ← ih]
      rfl
    · rw [indices_low _ hz (drop_lt x h k)] at ih
      rw [← List.drop_drop, ← ih]
      rfl
theorem ctz_drop (x k : Nat) (h : x < 2 ^ 64) (hk : k < pop 64 x) : Lib.ctz 64 (drop k x) = (indices x).getD k 0 := by
  rw [← length_indices] at hk
  have ih := indices_drop x h k
  have hz : drop k x ≠ 0 := by
    intro hz
    rw [hz, indices_zero] at ih
    have := congrArg List.length ih
    simp at this
    omega
  rw [indices_low _ hz (drop_lt x h k), List.drop_eq_getElem_cons hk] at ih
  injection ih with h1 _
  rw [h1, List.getD_eq_getElem?_getD, List.getElem?_eq_getElem hk]
  rfl
theorem pop_none (b : Nat) : pop 0 b = 0 := rfl
theorem count9 : pop 64 9 = 2 := by decide
theorem position9 : position 9 3 = 1 := by decide
theorem at9 : at_ 9 1 = 3 := by decide +kernel
theorem has9 : has 9 3 = true := by decide
theorem with9 : withE 9 1 = 11 := by decide

theorem withE_lt (b : Nat) (i : Int) (h : b < 18446744073709551616) : withE b i < 18446744073709551616 := by
  unfold withE
  split
  · rename_i hi
    have : 2 ^ i.toNat < 2 ^ 64 := Nat.pow_lt_pow_right (by decide) (by omega)
    have := Nat.or_lt_two_pow (n := 64) (x := b) (y := 2 ^ i.toNat) (by simpa using h) this
    simpa using this
  · exact h
theorem withoutE_lt (b : Nat) (i : Int) (h : b < 18446744073709551616) : withoutE b i < 18446744073709551616 := by
  unfold withoutE; split
  · exact Nat.lt_of_le_of_lt (Nat.sub_le _ _) h
  · exact h

theorem testBit_withE (b : Nat) (x : Nat) (hx : x < 64) (j : Nat) : (withE b (x : Int)).testBit j = (b.testBit j || decide (x = j)) := by
  unfold withE
  rw [if_pos (by omega), Nat.testBit_or, Int.toNat_natCast, Nat.testBit_two_pow]
theorem testBit_withoutE (b : Nat) (x : Nat) (hx : x < 64) (j : Nat) : (withoutE b (x : Int)).testBit j = (b.testBit j && !decide (x = j)) := by
  have e : withoutE b (x : Int) = andNot b (2 ^ x) := by
    have h1 : (x : Int) < 64 := by omega
    rw [andNot_pow]; unfold withoutE has; simp [h1]
  rw [e, testBit_andNot, Nat.testBit_two_pow]
theorem has_nat (b x : Nat) (hx : x < 64) : has b (x : Int) = b.testBit x := by
  have h1 : (x : Int) < 64 := by omega
  unfold has; simp [h1]

theorem has_withE (b x y : Nat) (hx : x < 64) (hy : y < 64) : has (withE b x) y = (has b y || decide (x = y)) := by
  rw [has_nat _ _ hy, has_nat _ _ hy, testBit_withE b x hx]
theorem has_withoutE (b x y : Nat) (hx : x < 64) (hy : y < 64) : has (withoutE b x) y = (has b y && !decide (x = y)) := by
  rw [has_nat _ _ hy, has_nat _ _ hy, testBit_withoutE b x hx]
theorem without_with (b x : Nat) (hx : x < 64) : withoutE (withE b x) x = withoutE b x := by
  apply Nat.eq_of_testBit_eq
  intro j
  rw [testBit_withoutE _ x hx, testBit_withoutE _ x hx, testBit_withE _ x hx]
  by_cases h : x = j <;> simp [h]
theorem with_without (b x : Nat) (hx : x < 64) : withE (withoutE b x) x = withE b x := by
  apply Nat.eq_of_testBit_eq
  intro j
  rw [testBit_withE _ x hx, testBit_withoutE _ x hx, testBit_withE _ x hx]
  by_cases h : x = j <;> simp [h]

theorem pop_withE (b x : Nat) (hx : x < 64) : ∀ y, pop y (withE b x) = pop y b + if x < y ∧ b.testBit x = false then 1 else 0
  | 0 => by rw [pop, pop]; simp
  | y + 1 => by
    rw [pop_testBit, pop_testBit, pop_withE b x hx y, testBit_withE b x hx]
    by_cases hb : b.testBit x = true
    · have : (b.testBit y || decide (x = y)) = b.testBit y := by
        by_cases h : x = y
        · subst h; simp [hb]
        · simp [h]
      simp [hb, this]
    · have hb' : b.testBit x = false := by simpa using hb
      by_cases h : x = y
      · subst h; simp [hb']
      · simp only [hb', h, decide_false, Bool.or_false, and_true]
        by_cases h2 : x < y
        · rw [if_pos h2, if_pos (by omega)]; omega
        · rw [if_neg h2, if_neg (by omega)]; omega

theorem position_withE (b x y : Nat) (hx : x < 64) (hy : y ≤ 64) : position (withE b x) (y : Int) = position b (y : Int) + if x < y ∧ has b (x : Int) = false then 1 else 0 := by
  have hc : cut (y : Int) = y := by
    unfold cut
    by_cases h0 : (y : Int) ≤ 0
    · rw [if_pos h0]; omega
    · rw [if_neg h0]
      by_cases h1 : 64 ≤ (y : Int)
      · rw [if_pos h1]; omega
      · rw [if_neg h1]; omega
  unfold position
  rw [hc, pop_withE b x hx, has_nat b x hx]
theorem position_all (b : Nat) : position b 64 = pop 64 b := rfl

theorem pop_split (b x : Nat) : pop 64 b = pop 64 (b &&& (2 ^ x - 1)) + pop 64 (andNot b (2 ^ x - 1)) := by
  have key : ∀ n, pop n b = pop n (b &&& (2 ^ x - 1)) + pop n (andNot b (2 ^ x - 1)) := by
    intro n
    induction n with
    | zero => simp [pop]
    | succ n ih =>
      rw [pop_testBit, pop_testBit, pop_testBit, ih, testBit_andNot, Nat.testBit_and]
      cases b.testBit n <;> cases (2 ^ x - 1).testBit n <;> simp <;> omega
  exact key 64
theorem position_and (b x : Nat) (hx : x < 64) : pop 64 (b &&& (2 ^ x - 1)) = position b (x : Int) := by
  rw [and_low, pop_mod x b (by omega)]
  unfold position cut
  by_cases h0 : (x : Int) ≤ 0
  · rw [if_pos h0]; have : x = 0 := by omega
    subst this; rfl
  · rw [if_neg h0, if_neg (by omega), Int.toNat_natCast]

theorem drop_zero (x : Nat) : drop 0 x = x := rfl
theorem drop_succ (k x : Nat) : drop (k + 1) x = drop k x &&& (drop k x - 1) := rfl
attribute [irreducible] pop indicesTo drop
end Go.Bm
