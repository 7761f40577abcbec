/- The walks of the statements BitmapCounts, BitmapSplits, BitmapChanges, and of their sanity check. -/
import Derived.Test.YtldmkoabkiphoaaDoorBmAt
namespace Go.Proofs.YtldmkoabkiphoaaDoor
open Go.RowKit

theorem has_eq {b : Nat} {i : Int} {v : Bool} {w : World} (hb : b < 18446744073709551616) (h : Hid (Bm.has b i = v)) :
    Calls Tryd.prog 8 #[.int .u64 (b : Int), .int .i64 i] w fun e w' => e = .returned (.bool v) ∧ w = w' := by
  rw [← h.out]; exact has_any b i w hb
theorem position_eq {b : Nat} {i : Int} {v : Nat} {w : World} (hb : b < 18446744073709551616) (h : Hid (Bm.position b i = v)) :
    Calls Tryd.prog 9 #[.int .u64 (b : Int), .int .i64 i] w fun e w' => e = .returned (.int .i64 (v : Int)) ∧ w = w' := by
  rw [← h.out]; exact position_any b i w hb
theorem withE_eq {b : Nat} {i : Int} {v : Nat} {w : World} (hb : b < 18446744073709551616) (h : Hid (Bm.withE b i = v)) :
    Calls Tryd.prog 10 #[.int .u64 (b : Int), .int .i64 i] w fun e w' => e = .returned (.int .u64 (v : Int)) ∧ w = w' := by
  rw [← h.out]; exact withE_any b i w hb
theorem withoutE_eq {b : Nat} {i : Int} {v : Nat} {w : World} (hb : b < 18446744073709551616) (h : Hid (Bm.withoutE b i = v)) :
    Calls Tryd.prog 13 #[.int .u64 (b : Int), .int .i64 i] w fun e w' => e = .returned (.int .u64 (v : Int)) ∧ w = w' := by
  rw [← h.out]; exact withoutE_any b i w hb
theorem count_eq {b : Nat} {v : Nat} {w : World} (hb : b < 18446744073709551616) (h : Hid (Bm.pop 64 b = v)) :
    Calls Tryd.prog 12 #[.int .u64 (b : Int)] w fun e w' => e = .returned (.int .i64 (v : Int)) ∧ w = w' := by
  rw [← h.out]; exact count_any b hb w
theorem at_eq {b : Nat} {p v : Int} {w : World} (hT : TabAt w) (hb : b < 18446744073709551616) (h : Hid (Bm.at_ b p = v)) :
    Calls Tryd.prog 15 #[.int .u64 (b : Int), .int .i64 p] w fun e w' => e = .returned (.int .i64 v) ∧ w = w' := by
  rw [← h.out]; exact at_any b p w hT hb

set_option maxHeartbeats 400000 in
theorem awake_any (w : World) (hT : Hid (TabAt w)) :
    Calls Tryd.prog 11 #[] w fun e w' => e = .returned (.bool true) ∧ w = w' := by
  have h1 := Lib.hid Bm.count9
  have h2 := Lib.hid Bm.position9
  have h3 := Lib.hid Bm.at9
  have h4 := Lib.hid Bm.has9
  have h5 := Lib.hid Bm.with9
  go_enter Tryd.func11, Tryd.ntmps11
  go_wp2_with fail
  refine (count_eq (b := 9) (by decide) h1).mono ?_
  rintro e w' ⟨rfl, rfl⟩
  go_wp2_with fail
  refine (position_eq (b := 9) (by decide) h2).mono ?_
  rintro e w' ⟨rfl, rfl⟩
  go_wp2_with fail
  refine (at_eq (b := 9) hT.out (by decide) h3).mono ?_
  rintro e w' ⟨rfl, rfl⟩
  go_wp2_with fail
  refine (has_eq (b := 9) (by decide) h4).mono ?_
  rintro e w' ⟨rfl, rfl⟩
  go_wp2_with fail
  refine (withE_eq (b := 9) (by decide) h5).mono ?_
  rintro e w' ⟨rfl, rfl⟩
  go_wp2_with fail
  go_ret
  exact ⟨rfl, rfl⟩

set_option maxHeartbeats 800000 in
theorem counts_any (b i k : Nat) (w : World) (hT : Hid (TabAt w)) (hb : b < 18446744073709551616) (hi : i < 256) (hk : k < 256) :
    Calls Tryd.prog 3 #[.int .u64 (b : Int), .int .u8 (i : Int), .int .u8 (k : Int)] w fun e w' => e = .returned (.bool true) ∧ w = w' := by
  have key := Bm.position_withE b (i % 64) (k % 65) (by omega) (by omega)
  have hwl := Bm.withE_lt b ((i % 64 : Nat) : Int) hb
  have hle : Bm.position b ((k % 65 : Nat) : Int) ≤ 64 := by
    unfold Bm.position; exact Nat.le_trans (Bm.pop_le _ _) (by unfold Bm.cut; split; omega; split <;> omega)
  obtain ⟨v, hv⟩ : ∃ v, Bm.has b ((i % 64 : Nat) : Int) = v := ⟨_, rfl⟩
  obtain ⟨wi, hwi⟩ : ∃ wi, Bm.withE b ((i % 64 : Nat) : Int) = wi := ⟨_, rfl⟩
  obtain ⟨p, hp⟩ : ∃ p, Bm.position b ((k % 65 : Nat) : Int) = p := ⟨_, rfl⟩
  obtain ⟨q, hq⟩ : ∃ q, Bm.position wi ((k % 65 : Nat) : Int) = q := ⟨_, rfl⟩
  obtain ⟨c, hc⟩ : ∃ c, Bm.pop 64 b = c := ⟨_, rfl⟩
  have hall : Bm.position b 64 = c := by rw [Bm.position_all]; exact hc
  rw [hwi, hq, hp, hv] at key
  rw [hwi] at hwl
  rw [hp] at hle
  rw [Int.natCast_emod] at hv hwi
  rw [Int.natCast_emod] at hp hq
  have HV := Lib.hid hv; have HW := Lib.hid hwi; have HP := Lib.hid hp; have HQ := Lib.hid hq; have HC := Lib.hid hc; have HA := Lib.hid hall
  clear hv hwi hp hq hc hall
  by_cases hle2 : k % 65 ≤ i % 64
  · rw [if_neg (by omega)] at key
    obtain rfl : q = p := by omega
    clear key
    cases v
    all_goals
      go_enter Tryd.func3, Tryd.ntmps3
      go_wp2_with fail
      refine (has_eq hb HV).mono ?_
      rintro e w' ⟨rfl, rfl⟩
      go_wp2_with fail
      refine (withE_eq hb HW).mono ?_
      rintro e w' ⟨rfl, rfl⟩
      go_wp2_with fail
      refine (position_eq hwl HQ).mono ?_
      rintro e w' ⟨rfl, rfl⟩
      go_wp2_with fail
      refine (position_eq hb HP).mono ?_
      rintro e w' ⟨rfl, rfl⟩
      go_wp2_with fail
      refine (awake_any _ hT).mono ?_
      rintro e w' ⟨rfl, rfl⟩
      go_wp2_with fail
      go_ret
      exact ⟨by simp, rfl⟩
  · cases v
    · rw [if_pos ⟨by omega, rfl⟩] at key
      subst key
      go_enter Tryd.func3, Tryd.ntmps3
      go_wp2_with fail
      refine (has_eq hb HV).mono ?_
      rintro e w' ⟨rfl, rfl⟩
      go_wp2_with fail
      refine (withE_eq hb HW).mono ?_
      rintro e w' ⟨rfl, rfl⟩
      go_wp2_with fail
      refine (position_eq hwl HQ).mono ?_
      rintro e w' ⟨rfl, rfl⟩
      go_wp2_with fail
      refine (position_eq hb HP).mono ?_
      rintro e w' ⟨rfl, rfl⟩
      go_wp2_with fail
      refine (awake_any _ hT).mono ?_
      rintro e w' ⟨rfl, rfl⟩
      go_wp2_with fail
      refine (position_eq hb HA).mono ?_
      rintro e w' ⟨rfl, rfl⟩
      go_wp2_with fail
      refine (count_eq hb HC).mono ?_
      rintro e w' ⟨rfl, rfl⟩
      go_wp2_with fail
      go_ret
      exact ⟨by simp, rfl⟩
    · rw [if_neg (by simp)] at key
      obtain rfl : q = p := by omega
      clear key
      go_enter Tryd.func3, Tryd.ntmps3
      go_wp2_with fail
      refine (has_eq hb HV).mono ?_
      rintro e w' ⟨rfl, rfl⟩
      go_wp2_with fail
      refine (withE_eq hb HW).mono ?_
      rintro e w' ⟨rfl, rfl⟩
      go_wp2_with fail
      refine (position_eq hwl HQ).mono ?_
      rintro e w' ⟨rfl, rfl⟩
      go_wp2_with fail
      refine (position_eq hb HP).mono ?_
      rintro e w' ⟨rfl, rfl⟩
      go_wp2_with fail
      refine (awake_any _ hT).mono ?_
      rintro e w' ⟨rfl, rfl⟩
      go_wp2_with fail
      refine (position_eq hb HA).mono ?_
      rintro e w' ⟨rfl, rfl⟩
      go_wp2_with fail
      refine (count_eq hb HC).mono ?_
      rintro e w' ⟨rfl, rfl⟩
      go_wp2_with fail
      go_ret
      exact ⟨by simp, rfl⟩

set_option maxHeartbeats 800000 in
theorem splits_any (b i : Nat) (w : World) (hT : Hid (TabAt w)) (hb : b < 18446744073709551616) (hi : i < 256) :
    Calls Tryd.prog 4 #[.int .u64 (b : Int), .int .u8 (i : Int)] w fun e w' => e = .returned (.bool true) ∧ w = w' := by
  have hx : i % 64 < 64 := by omega
  have key := Bm.pop_split b (i % 64)
  have hpos := Bm.position_and b (i % 64) hx
  have hp := two_pow_lt (i % 64) hx
  have hpp : 0 < 2 ^ (i % 64) := Nat.two_pow_pos _
  have hmask : IntKind.u64.wrap (IntKind.u64.wrap (2 ^ (i % 64)) - 1) = ((2 ^ (i % 64) - 1 : Nat) : Int) := by
    rw [wrap_pow _ hx, show ((2 ^ (i % 64) : Nat) : Int) - 1 = ((2 ^ (i % 64) - 1 : Nat) : Int) by omega, wrap_nat _ (by omega)]
  have hand := and_u64 b (2 ^ (i % 64) - 1) hb (by omega)
  have hnot := andNot_u64 b (2 ^ (i % 64) - 1) hb (by omega)
  have l1 : b &&& (2 ^ (i % 64) - 1) < 18446744073709551616 := Nat.lt_of_le_of_lt Nat.and_le_left hb
  have l2 : Bm.andNot b (2 ^ (i % 64) - 1) < 18446744073709551616 := by
    have := Bm.andNot_lt 64 b (2 ^ (i % 64) - 1) (by simpa using hb)
    simpa using this
  clear hp hpp
  generalize 2 ^ (i % 64) - 1 = m at *
  generalize b &&& m = lo at *
  generalize Bm.andNot b m = hi_ at *
  have b1 := Bm.pop_le 64 lo
  have b2 := Bm.pop_le 64 hi_
  obtain ⟨c1, h1⟩ : ∃ c, Bm.pop 64 lo = c := ⟨_, rfl⟩
  obtain ⟨c2, h2⟩ : ∃ c, Bm.pop 64 hi_ = c := ⟨_, rfl⟩
  rw [h1] at b1 key hpos
  rw [h2] at b2 key
  rw [Int.natCast_emod] at hpos
  have H1 := Lib.hid h1; have H2 := Lib.hid h2; have HK := Lib.hid key; have HP := Lib.hid hpos.symm
  have hand' : bits .and .u64 (b : Int) (IntKind.u64.wrap (IntKind.u64.wrap (2 ^ (i % 64)) - 1)) = (lo : Int) := by rw [hmask, hand]
  have hnot' : bits .andNot .u64 (b : Int) (IntKind.u64.wrap (IntKind.u64.wrap (2 ^ (i % 64)) - 1)) = (hi_ : Int) := by rw [hmask, hnot]
  clear h1 h2 key hpos hmask hand hnot
  go_enter Tryd.func4, Tryd.ntmps4
  go_wp2_with fail
  refine (awake_any _ hT).mono ?_
  rintro e w' ⟨rfl, rfl⟩
  go_wp2_with fail
  refine (count_eq l1 H1).mono ?_
  rintro e w' ⟨rfl, rfl⟩
  go_wp2_with fail
  refine (position_eq hb HP).mono ?_
  rintro e w' ⟨rfl, rfl⟩
  go_wp2_with fail
  refine (count_eq hb HK).mono ?_
  rintro e w' ⟨rfl, rfl⟩
  go_wp2_with fail
  refine (count_eq l1 H1).mono ?_
  rintro e w' ⟨rfl, rfl⟩
  go_wp2_with fail
  refine (count_eq l2 H2).mono ?_
  rintro e w' ⟨rfl, rfl⟩
  go_wp2_with fail
  go_ret
  exact ⟨by simp, rfl⟩
end Go.Proofs.YtldmkoabkiphoaaDoor
