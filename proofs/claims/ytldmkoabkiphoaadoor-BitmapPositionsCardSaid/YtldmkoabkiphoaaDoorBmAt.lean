/- The walk of bitmap.At. -/
import Derived.Test.YtldmkoabkiphoaaDoorBmOps
namespace Go.Proofs.YtldmkoabkiphoaaDoor
open Go.RowKit

theorem clear_u64 (x : Nat) (h0 : x ≠ 0) (hx : x < 18446744073709551616) : bits .and .u64 (x : Int) (IntKind.u64.wrap ((x : Int) - 1)) = ((x &&& (x - 1) : Nat) : Int) := by
  rw [show (x : Int) - 1 = ((x - 1 : Nat) : Int) by omega, wrap_nat _ (by omega), and_u64 _ _ hx (by omega)]

set_option maxHeartbeats 400000 in
theorem at_no (b : Nat) (p : Int) (w : World) (hb : b < 18446744073709551616) (h : p < 0 ∨ (Bm.pop 64 b : Int) ≤ p) :
    Calls Tryd.prog 15 #[.int .u64 (b : Int), .int .i64 p] w fun e w' => e = .returned (.int .i64 (-1)) ∧ w = w' := by
  by_cases h0 : p < 0
  · go_enter Tryd.func15, Tryd.ntmps15
    go_wp2_with fail
    go_ret
    exact ⟨rfl, rfl⟩
  · have h1 : (Bm.pop 64 b : Int) ≤ p := by omega
    clear h
    go_enter Tryd.func15, Tryd.ntmps15
    go_wp2_with (go_at_call 12; refine (count_any _ hb _).mono ?_; rintro e w' ⟨rfl, rfl⟩)
    go_ret
    exact ⟨rfl, rfl⟩

set_option maxHeartbeats 400000 in
theorem at_yes (b p : Nat) (w : World) (hT : TabAt w) (hb : b < 18446744073709551616) (h : p < Bm.pop 64 b) :
    Calls Tryd.prog 15 #[.int .u64 (b : Int), .int .i64 (p : Int)] w fun e w' => e = .returned (.int .i64 ((Bm.indices b).getD p 0 : Nat)) ∧ w = w' := by
  have hle := Bm.pop_le 64 b
  have hd : decide (Bm.pop 64 b ≤ p) = false := by simp; omega
  have HT := Lib.hid hT
  have Hend := Lib.hid (Bm.ctz_drop b p (by simpa using hb) h)
  have hnz : ∀ k, k < p → Bm.drop k b ≠ 0 := by
    intro k hk hz
    have := Bm.indices_drop b (by simpa using hb) k
    rw [hz, Bm.indices_zero] at this
    have h2 := congrArg List.length this
    rw [List.length_drop, Bm.length_indices] at h2
    simp at h2
    omega
  have Hnz := Lib.hid hnz
  have hcount := count_any b hb w
  generalize Bm.pop 64 b = c at hcount hle hd h
  have Hc := Lib.hid hcount
  clear hT hcount hnz
  go_enter Tryd.func15, Tryd.ntmps15
  go_wp2_with (go_at_call 12; refine Hc.out.mono ?_; rintro e w' ⟨rfl, rfl⟩)
  go_loop [0, 14] (fun x i => ∃ k : Nat, k ≤ p ∧ i = .int .i64 k ∧ x = .int .u64 (Bm.drop k b : Nat)) (fun _ i => p - (intOf i).toNat)
  case atStart => exact ⟨0, Nat.zero_le _, rfl, by rw [Bm.drop_zero]⟩
  case round =>
    obtain ⟨k, hk, rfl, rfl⟩ := hrel
    have hl : Bm.drop k b < 18446744073709551616 := by simpa using Bm.drop_lt b (by simpa using hb) k
    by_cases hlt : k < p
    · have hkey := clear_u64 _ (Hnz.out k hlt) hl
      go_wp2
      go_round
      case rel => exact ⟨k + 1, by omega, by go_num, by rw [Bm.drop_succ]⟩
      case measure => simp [intOf]; omega
    · obtain rfl : k = p := by omega
      go_wp2_with (go_at_call 26; refine (tz64 _ hl _ HT.out).mono ?_; rintro e w' ⟨rfl, rfl⟩)
      go_ret
      exact ⟨by rw [← Hend.out]; rfl, rfl⟩

theorem at_any (b : Nat) (p : Int) (w : World) (hT : TabAt w) (hb : b < 18446744073709551616) :
    Calls Tryd.prog 15 #[.int .u64 (b : Int), .int .i64 p] w fun e w' => e = .returned (.int .i64 (Bm.at_ b p)) ∧ w = w' := by
  by_cases h : 0 ≤ p ∧ p < (Bm.indices b).length
  · have e : Bm.at_ b p = ((Bm.indices b).getD p.toNat 0 : Nat) := by unfold Bm.at_; rw [if_pos h]
    rw [e]
    rw [Bm.length_indices] at h
    obtain ⟨h0, h1⟩ := h
    obtain ⟨n, rfl⟩ := Int.eq_ofNat_of_zero_le h0
    exact at_yes b n w hT hb (by omega)
  · have e : Bm.at_ b p = -1 := by unfold Bm.at_; rw [if_neg h]
    rw [e]
    rw [Bm.length_indices] at h
    exact at_no b p w hb (by omega)
end Go.Proofs.YtldmkoabkiphoaaDoor
