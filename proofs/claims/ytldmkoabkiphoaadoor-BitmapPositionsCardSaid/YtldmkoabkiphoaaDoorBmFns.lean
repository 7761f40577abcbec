/- The walks of package bitmap's functions without loops, and of math/bits.OnesCount64 and TrailingZeros64. -/
import Derived.Test.YtldmkoabkiphoaaDoorProg
import Derived.Test.YtldmkoabkiphoaaDoorBm
import Derived.WalkKit
import Derived.IntWalk
import Derived.WalkSpells
import Derived.WalkLawsBesides
import Derived.Laws.Bits64b
import Derived.Lib.TrailingZeros
import Derived.Lib.Hide
namespace Go.Proofs.YtldmkoabkiphoaaDoor
open Go.RowKit

theorem and_u64 (a b : Nat) (ha : a < 18446744073709551616) (hb : b < 18446744073709551616) : bits .and .u64 (a : Int) (b : Int) = ((a &&& b : Nat) : Int) := bits_and_u64_nat a b ha hb
theorem wrap_nat (a : Nat) (h : a < 18446744073709551616) : IntKind.u64.wrap (a : Int) = (a : Int) := by rw [IntKind.wrap_u64]; omega
theorem wrap_add (a b : Nat) (h : a + b < 18446744073709551616) : IntKind.u64.wrap ((a : Int) + (b : Int)) = ((a + b : Nat) : Int) := by rw [IntKind.wrap_u64]; omega

theorem and_i64_127 (y : Nat) (_h : y < 18446744073709551616) : bits .and .i64 (wrap64 (y : Int)) 127 = ((y % 128 : Nat) : Int) := by
  have h1 : (BitVec.ofInt 64 (wrap64 (y : Int))) = BitVec.ofNat 64 y := by
    apply BitVec.eq_of_toNat_eq
    rw [BitVec.toNat_ofInt, BitVec.toNat_ofNat]
    unfold wrap64
    omega
  show IntKind.i64.wrap ((BitVec.ofInt 64 (wrap64 (y : Int)) &&& BitVec.ofInt 64 127).toNat : Int) = _
  rw [h1]
  have h2 : (BitVec.ofNat 64 y &&& BitVec.ofInt 64 127).toNat = y % 128 := by
    rw [BitVec.toNat_and]
    have e : (BitVec.ofInt 64 127).toNat = 2 ^ 7 - 1 := by decide
    rw [e, Nat.and_two_pow_sub_one_eq_mod, BitVec.toNat_ofNat]
    omega
  rw [h2]
  exact IntWalk.i64_in _ (by omega)

set_option maxHeartbeats 1000000 in
theorem onesCount_core (x s1 s2 s4 y1 y2 y3 p : Nat) (w : World)
    (e1 : IntKind.u64.wrap (bits .and .u64 ((x : Int) / 2) 6148914691236517205 + bits .and .u64 (x : Int) 6148914691236517205) = (s1 : Int))
    (e2 : IntKind.u64.wrap (bits .and .u64 ((s1 : Int) / 4) 3689348814741910323 + bits .and .u64 (s1 : Int) 3689348814741910323) = (s2 : Int))
    (e4 : bits .and .u64 (IntKind.u64.wrap ((s2 : Int) / 16 + (s2 : Int))) 1085102592571150095 = (s4 : Int))
    (f1 : IntKind.u64.wrap ((s4 : Int) + (s4 : Int) / 256) = (y1 : Int))
    (f2 : IntKind.u64.wrap ((y1 : Int) + (y1 : Int) / 65536) = (y2 : Int))
    (f3 : IntKind.u64.wrap ((y2 : Int) + (y2 : Int) / 4294967296) = (y3 : Int))
    (f4 : bits .and .i64 (wrap64 (y3 : Int)) 127 = (p : Int)) :
    Calls Tryd.prog 25 #[.int .u64 (x : Int)] w fun e w' => e = .returned (.int .i64 (p : Int)) ∧ w = w' := by
  go_enter Tryd.func25, Tryd.ntmps25
  go_wp2
  go_ret
  exact ⟨rfl, rfl⟩

theorem onesCount (x : Nat) (hx : x < 18446744073709551616) (w : World) :
    Calls Tryd.prog 25 #[.int .u64 (x : Int)] w fun e w' => e = .returned (.int .i64 (Bm.pop 64 x : Nat)) ∧ w = w' := by
  obtain ⟨y1, y2, y3, h1, h2, h3, l1, l2, l3, hp⟩ := Bm.fold8 x
  obtain ⟨m1, m2, m4⟩ := Bm.masks
  have b1 := Bm.sum1_lt 32 x
  have b2 := Bm.sum2_lt 16 x
  have k1 := Bm.step1 32 x
  have k2 := Bm.step2 16 x
  have k4 := Bm.step4 8 x
  simp only [Nat.reduceMul, Nat.reducePow] at b1 b2 k2 k4
  rw [m1] at k1
  rw [m2] at k2
  rw [m4] at k4
  have c1 : ((6148914691236517205 : Nat) : Int) = 6148914691236517205 := rfl
  have c2 : ((3689348814741910323 : Nat) : Int) = 3689348814741910323 := rfl
  have c4 : ((1085102592571150095 : Nat) : Int) = 1085102592571150095 := rfl
  refine onesCount_core x (Bm.sum1 32 x) (Bm.sum2 16 x) (Bm.sum4 8 x) y1 y2 y3 (Bm.pop 64 x) w ?_ ?_ ?_ ?_ ?_ ?_ ?_
  · rw [show (x : Int) / 2 = ((x / 2 : Nat) : Int) by omega, ← c1, and_u64 _ _ (by omega) (by decide), and_u64 _ _ (by omega) (by decide), wrap_add, k1]
    rw [k1]; omega
  · rw [show ((Bm.sum1 32 x : Nat) : Int) / 4 = ((Bm.sum1 32 x / 4 : Nat) : Int) by omega, ← c2, and_u64 _ _ (by omega) (by decide), and_u64 _ _ (by omega) (by decide), wrap_add, k2]
    rw [k2]; omega
  · rw [show ((Bm.sum2 16 x : Nat) : Int) / 16 = ((Bm.sum2 16 x / 16 : Nat) : Int) by omega, ← c4, wrap_add _ _ (by omega), and_u64 _ _ (by omega) (by decide), k4]
  · rw [show ((Bm.sum4 8 x : Nat) : Int) / 256 = ((Bm.sum4 8 x / 256 : Nat) : Int) by omega, wrap_add _ _ (by omega), h1]
  · rw [show (y1 : Int) / 65536 = ((y1 / 65536 : Nat) : Int) by omega, wrap_add _ _ (by omega), h2]
  · rw [show (y2 : Int) / 4294967296 = ((y2 / 4294967296 : Nat) : Int) by omega, wrap_add _ _ (by omega), h3]
  · rw [and_i64_127 y3 l3, hp]

theorem count_any (x : Nat) (hx : x < 18446744073709551616) (w : World) :
    Calls Tryd.prog 12 #[.int .u64 (x : Int)] w fun e w' => e = .returned (.int .i64 (Bm.pop 64 x : Nat)) ∧ w = w' := by
  go_enter Tryd.func12, Tryd.ntmps12
  go_wp2_with (go_at_call 25; refine (onesCount x hx _).mono ?_; rintro e w' ⟨rfl, rfl⟩)
  go_ret
  exact ⟨rfl, rfl⟩

/-! ### math/bits.TrailingZeros64 -/

/-- The table in its variable. -/
def TabAt (w : World) : Prop := ∀ j, j < Lib.deBruijn64tab.length → w.cell? ⟨0, j, none⟩ = some (.int .u8 (Lib.deBruijn64tab.getD j 0))

set_option maxHeartbeats 1000000 in
theorem tz64_core (x k idx : Nat) (w : World) (hx0 : ((x : Int) == 0) = false)
    (key : IntKind.u64.wrap (bits BinOp.and IntKind.u64 (x : Int) (IntKind.u64.wrap (-(x : Int))) * 285870213051353865) / 288230376151711744 = (idx : Int))
    (hi : idx < 64) (hk : k < 64) (hcell : w.cell? ⟨0, idx, none⟩ = some (.int .u8 k)) :
    Calls Tryd.prog 26 #[.int .u64 x] w fun e w' => e = .returned (.int .i64 k) ∧ w = w' := by
  go_enter Tryd.func26, Tryd.ntmps26
  go_wp2_with (simp only [key])
  go_ret
  exact ⟨rfl, rfl⟩

theorem tz64_zero (w : World) :
    Calls Tryd.prog 26 #[.int .u64 0] w fun e w' => e = .returned (.int .i64 64) ∧ w = w' := by
  go_enter Tryd.func26, Tryd.ntmps26
  go_wp2
  go_ret
  exact ⟨rfl, rfl⟩

theorem tz64_key (x a : Nat) (hx : x < 18446744073709551616) (hx0 : x ≠ 0) (hlow : x &&& (18446744073709551616 - x) = a) :
    IntKind.u64.wrap (bits BinOp.and IntKind.u64 (x : Int) (IntKind.u64.wrap (-(x : Int))) * 285870213051353865) / 288230376151711744 = ((a * 285870213051353865 % 18446744073709551616 / 288230376151711744 : Nat) : Int) := by
  have e1 : IntKind.u64.wrap (-(x : Int)) = ((18446744073709551616 - x : Nat) : Int) := by rw [IntKind.wrap_u64]; omega
  rw [e1, bits_and_u64_nat x _ hx (by omega), hlow, IntKind.wrap_u64]
  omega

theorem tz64 (x : Nat) (hx : x < 18446744073709551616) (w : World) (hT : TabAt w) :
    Calls Tryd.prog 26 #[.int .u64 x] w fun e w' => e = .returned (.int .i64 (Lib.ctz 64 x)) ∧ w = w' := by
  by_cases hx0 : x = 0
  · subst hx0
    exact tz64_zero w
  · obtain ⟨hlow, hk⟩ := Lib.lowest_bit 64 x hx0 hx
    obtain ⟨hi, htab⟩ := Lib.deBruijn64_at _ hk
    have hcell := hT _ hi
    rw [htab] at hcell
    exact tz64_core x _ _ w (by simp; omega) (tz64_key x _ hx hx0 hlow) hi hk hcell

/-! ### The functions of package bitmap -/

theorem inRange_yes (i : Int) (w : World) (h0 : 0 ≤ i) (h1 : i < 64) :
    Calls Tryd.prog 24 #[.int .i64 i] w fun e w' => e = .returned (.bool true) ∧ w = w' := by
  go_enter Tryd.func24, Tryd.ntmps24
  go_wp2
  go_ret
  exact ⟨by simp, rfl⟩
theorem inRange_no (i : Int) (w : World) (h : i < 0 ∨ 64 ≤ i) :
    Calls Tryd.prog 24 #[.int .i64 i] w fun e w' => e = .returned (.bool false) ∧ w = w' := by
  rcases h with h | h
  · go_enter Tryd.func24, Tryd.ntmps24
    go_wp2
    go_ret
    exact ⟨rfl, rfl⟩
  · go_enter Tryd.func24, Tryd.ntmps24
    go_wp2
    go_ret
    exact ⟨by simp; omega, rfl⟩
end Go.Proofs.YtldmkoabkiphoaaDoor
