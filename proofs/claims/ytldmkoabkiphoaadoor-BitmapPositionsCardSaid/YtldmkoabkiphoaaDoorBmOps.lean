/- The walks of bitmap.Has, Position, With, Without. -/
import Derived.Test.YtldmkoabkiphoaaDoorBmFns
namespace Go.Proofs.YtldmkoabkiphoaaDoor
open Go.RowKit

theorem two_pow_lt (i : Nat) (h : i < 64) : 2 ^ i < 18446744073709551616 := by
  have : 2 ^ i < 2 ^ 64 := Nat.pow_lt_pow_right (by decide) h
  simpa using this
theorem wrap_pow (i : Nat) (h : i < 64) : IntKind.u64.wrap (2 ^ i) = ((2 ^ i : Nat) : Int) := by
  have := two_pow_lt i h
  rw [show (2 : Int) ^ i = ((2 ^ i : Nat) : Int) by simp, wrap_nat _ this]
theorem and_one (b i : Nat) (hb : b < 18446744073709551616) : bits .and .u64 ((b : Int) / 2 ^ i) 1 = (((b.testBit i).toNat : Nat) : Int) := by
  have e : (b : Int) / 2 ^ i = ((b / 2 ^ i : Nat) : Int) := by simp
  have hl : b / 2 ^ i < 18446744073709551616 := Nat.lt_of_le_of_lt (Nat.div_le_self _ _) hb
  rw [e, show (1 : Int) = ((1 : Nat) : Int) from rfl, and_u64 _ _ hl (by decide), Nat.and_one_is_mod, Bm.bit_toNat]

theorem andNot_u64 (b m : Nat) (hb : b < 18446744073709551616) (hm : m < 18446744073709551616) : bits .andNot .u64 (b : Int) (m : Int) = ((Bm.andNot b m : Nat) : Int) := by
  have h1 : (BitVec.ofInt 64 (b : Int)).toNat = b := by
    rw [BitVec.ofInt_natCast, BitVec.toNat_ofNat]; exact Nat.mod_eq_of_lt (by omega)
  have h2 : (BitVec.ofInt 64 (m : Int)).toNat = m := by
    rw [BitVec.ofInt_natCast, BitVec.toNat_ofNat]; exact Nat.mod_eq_of_lt (by omega)
  have hlt : Bm.andNot b m < 2 ^ 64 := Bm.andNot_lt 64 b m (by omega)
  have h3 : (BitVec.ofInt 64 (b : Int) &&& ~~~ BitVec.ofInt 64 (m : Int)).toNat = Bm.andNot b m := by
    have e : BitVec.ofInt 64 (b : Int) &&& ~~~ BitVec.ofInt 64 (m : Int) = BitVec.ofNat 64 (Bm.andNot b m) := by
      apply BitVec.eq_of_getLsbD_eq
      intro j hj
      rw [BitVec.getLsbD_and, BitVec.getLsbD_not, BitVec.getLsbD_ofNat, Bm.testBit_andNot, ← BitVec.testBit_toNat, ← BitVec.testBit_toNat, h1, h2]
      simp [hj]
    rw [e, BitVec.toNat_ofNat]
    exact Nat.mod_eq_of_lt hlt
  show IntKind.u64.wrap ((BitVec.ofInt 64 (b : Int) &&& ~~~ BitVec.ofInt 64 (m : Int)).toNat : Int) = _
  rw [h3]
  exact wrap_nat _ (by simpa using hlt)

theorem has_any (b : Nat) (i : Int) (w : World) (hb : b < 18446744073709551616) :
    Calls Tryd.prog 8 #[.int .u64 (b : Int), .int .i64 i] w fun e w' => e = .returned (.bool (Bm.has b i)) ∧ w = w' := by
  by_cases h : 0 ≤ i ∧ i < 64
  · obtain ⟨h0, h1⟩ := h
    obtain ⟨n, rfl⟩ := Int.eq_ofNat_of_zero_le h0
    have hk := and_one b n hb
    have hv : Bm.has b (n : Int) = ((((b.testBit n).toNat : Nat) : Int) == 1) := by
      simp only [Bm.has, h0, h1, Int.toNat_natCast]
      cases b.testBit n <;> rfl
    have Hv := Lib.hid hv
    clear hv
    go_enter Tryd.func8, Tryd.ntmps8
    go_wp2_with (go_at_call 24; refine (inRange_yes _ _ h0 h1).mono ?_; rintro e w' ⟨rfl, rfl⟩)
    go_ret
    exact ⟨by rw [Hv.out]; rfl, rfl⟩
  · have hv : Bm.has b i = false := by
      unfold Bm.has
      by_cases h0 : 0 ≤ i
      · have : ¬ i < 64 := fun h1 => h ⟨h0, h1⟩
        simp [this]
      · simp [h0]
    have Hv := Lib.hid hv
    clear hv
    go_enter Tryd.func8, Tryd.ntmps8
    go_wp2_with (go_at_call 24; refine (inRange_no _ _ (by omega)).mono ?_; rintro e w' ⟨rfl, rfl⟩)
    go_ret
    exact ⟨by rw [Hv.out]; rfl, rfl⟩

theorem position_any (b : Nat) (i : Int) (w : World) (hb : b < 18446744073709551616) :
    Calls Tryd.prog 9 #[.int .u64 (b : Int), .int .i64 i] w fun e w' => e = .returned (.int .i64 (Bm.position b i : Nat)) ∧ w = w' := by
  by_cases h0 : i ≤ 0
  · have hv : Bm.position b i = 0 := by unfold Bm.position Bm.cut; rw [if_pos h0]; exact Bm.pop_none b
    have Hv := Lib.hid hv
    clear hv
    go_enter Tryd.func9, Tryd.ntmps9
    go_wp2_with fail
    go_ret
    exact ⟨by rw [Hv.out]; rfl, rfl⟩
  · by_cases h1 : 64 ≤ i
    · have hv : Bm.position b i = Bm.pop 64 b := by unfold Bm.position Bm.cut; rw [if_neg h0, if_pos h1]
      have Hv := Lib.hid hv
      clear hv
      go_enter Tryd.func9, Tryd.ntmps9
      go_wp2_with (go_at_call 12; refine (count_any _ hb _).mono ?_; rintro e w' ⟨rfl, rfl⟩)
      go_ret
      exact ⟨by rw [Hv.out]; rfl, rfl⟩
    · obtain ⟨n, rfl⟩ := Int.eq_ofNat_of_zero_le (show 0 ≤ i by omega)
      have hn : n < 64 := by omega
      have hp := two_pow_lt n hn
      have hpos : 0 < 2 ^ n := Nat.two_pow_pos n
      have hv : Bm.position b (n : Int) = Bm.pop 64 (b % 2 ^ n) := by
        unfold Bm.position Bm.cut; rw [if_neg h0, if_neg h1, Bm.pop_mod n b (by omega), Int.toNat_natCast]
      have Hv := Lib.hid hv
      have hk : bits .and .u64 (b : Int) (IntKind.u64.wrap (IntKind.u64.wrap (2 ^ n) - 1)) = ((b % 2 ^ n : Nat) : Int) := by
        rw [wrap_pow n hn, show ((2 ^ n : Nat) : Int) - 1 = ((2 ^ n - 1 : Nat) : Int) by omega, wrap_nat _ (by omega), and_u64 _ _ hb (by omega), Bm.and_low]
      have hl : b % 2 ^ n < 18446744073709551616 := Nat.lt_of_le_of_lt (Nat.mod_le _ _) hb
      clear hv hpos hp
      go_enter Tryd.func9, Tryd.ntmps9
      go_wp2_with (go_at_call 12; refine (count_any _ hl _).mono ?_; rintro e w' ⟨rfl, rfl⟩)
      go_ret
      exact ⟨by rw [Hv.out]; rfl, rfl⟩

theorem withE_any (b : Nat) (i : Int) (w : World) (hb : b < 18446744073709551616) :
    Calls Tryd.prog 10 #[.int .u64 (b : Int), .int .i64 i] w fun e w' => e = .returned (.int .u64 (Bm.withE b i : Nat)) ∧ w = w' := by
  by_cases h : 0 ≤ i ∧ i < 64
  · have hv : Bm.withE b i = b ||| 2 ^ i.toNat := by unfold Bm.withE; rw [if_pos h]
    obtain ⟨h0, h1⟩ := h
    obtain ⟨n, rfl⟩ := Int.eq_ofNat_of_zero_le h0
    have hn : n < 64 := by omega
    have hp := two_pow_lt n hn
    rw [Int.toNat_natCast] at hv
    have Hv := Lib.hid hv
    have hk : bits .or .u64 (b : Int) (IntKind.u64.wrap (2 ^ n)) = ((b ||| 2 ^ n : Nat) : Int) := by
      rw [wrap_pow n hn, bits_or_u64_nat _ _ hb hp]
    clear hv hp
    go_enter Tryd.func10, Tryd.ntmps10
    go_wp2_with (go_at_call 24; refine (inRange_yes _ _ h0 h1).mono ?_; rintro e w' ⟨rfl, rfl⟩)
    go_ret
    exact ⟨by rw [Hv.out]; rfl, rfl⟩
  · have hv : Bm.withE b i = b := by unfold Bm.withE; rw [if_neg h]
    have Hv := Lib.hid hv
    clear hv
    go_enter Tryd.func10, Tryd.ntmps10
    go_wp2_with (go_at_call 24; refine (inRange_no _ _ (by omega)).mono ?_; rintro e w' ⟨rfl, rfl⟩)
    go_ret
    exact ⟨by rw [Hv.out]; rfl, rfl⟩

theorem withoutE_any (b : Nat) (i : Int) (w : World) (hb : b < 18446744073709551616) :
    Calls Tryd.prog 13 #[.int .u64 (b : Int), .int .i64 i] w fun e w' => e = .returned (.int .u64 (Bm.withoutE b i : Nat)) ∧ w = w' := by
  by_cases h : 0 ≤ i ∧ i < 64
  · obtain ⟨h0, h1⟩ := h
    obtain ⟨n, rfl⟩ := Int.eq_ofNat_of_zero_le h0
    have hn : n < 64 := by omega
    have hp := two_pow_lt n hn
    have hv : Bm.withoutE b (n : Int) = Bm.andNot b (2 ^ n) := by
      unfold Bm.withoutE Bm.has; rw [Bm.andNot_pow]; simp [h0, h1]
    have Hv := Lib.hid hv
    have hk : bits .andNot .u64 (b : Int) (IntKind.u64.wrap (2 ^ n)) = ((Bm.andNot b (2 ^ n) : Nat) : Int) := by
      rw [wrap_pow n hn, andNot_u64 _ _ hb hp]
    clear hv hp
    go_enter Tryd.func13, Tryd.ntmps13
    go_wp2_with (go_at_call 24; refine (inRange_yes _ _ h0 h1).mono ?_; rintro e w' ⟨rfl, rfl⟩)
    go_ret
    exact ⟨by rw [Hv.out]; rfl, rfl⟩
  · have hv : Bm.withoutE b i = b := by
      unfold Bm.withoutE Bm.has
      by_cases h0 : 0 ≤ i
      · have : ¬ i < 64 := fun h1 => h ⟨h0, h1⟩
        simp [this]
      · simp [h0]
    have Hv := Lib.hid hv
    clear hv
    go_enter Tryd.func13, Tryd.ntmps13
    go_wp2_with (go_at_call 24; refine (inRange_no _ _ (by omega)).mono ?_; rintro e w' ⟨rfl, rfl⟩)
    go_ret
    exact ⟨by rw [Hv.out]; rfl, rfl⟩
end Go.Proofs.YtldmkoabkiphoaaDoor
