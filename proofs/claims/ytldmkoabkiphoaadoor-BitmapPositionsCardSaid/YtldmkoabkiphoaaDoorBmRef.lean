/- The walks of the reference of package bitmap. -/
import Derived.Test.YtldmkoabkiphoaaDoorBmIdx
import Derived.Deep.QuietTactic
import Derived.BigQuiet
namespace Go.Proofs.YtldmkoabkiphoaaDoor
open Go.RowKit

set_option maxHeartbeats 400000 in
theorem rhas_any (b : Nat) (i : Int) (w : World) (hb : b < 18446744073709551616) :
    Calls Tryd.prog 16 #[.int .u64 (b : Int), .int .i64 i] w fun e w' => e = .returned (.bool (Bm.has b i)) ∧ w = w' := by
  by_cases h0 : 0 ≤ i
  · by_cases h1 : i < 64
    · obtain ⟨n, rfl⟩ := Int.eq_ofNat_of_zero_le h0
      have hk := and_one b n hb
      have hv : Bm.has b (n : Int) = ((((b.testBit n).toNat : Nat) : Int) == 1) := by
        simp only [Bm.has, h0, h1, Int.toNat_natCast]
        cases b.testBit n <;> rfl
      have Hv := Lib.hid hv
      have hd : decide ((n : Int) < 64) = true := by simpa using h1
      clear hv
      go_enter Tryd.func16, Tryd.ntmps16
      go_wp2_with fail
      go_ret
      exact ⟨by rw [Hv.out]; rfl, rfl⟩
    · have hv : Bm.has b i = false := by unfold Bm.has; simp [h1]
      have Hv := Lib.hid hv
      have hd : decide (i < 64) = false := by simpa using h1
      clear hv
      go_enter Tryd.func16, Tryd.ntmps16
      go_wp2_with fail
      go_ret
      exact ⟨by rw [Hv.out]; rfl, rfl⟩
  · have hv : Bm.has b i = false := by unfold Bm.has; simp [h0]
    have Hv := Lib.hid hv
    clear hv
    go_enter Tryd.func16, Tryd.ntmps16
    go_wp2_with fail
    go_ret
    exact ⟨by rw [Hv.out]; rfl, rfl⟩

theorem rhas_eq {b : Nat} {i : Int} {v : Bool} {w : World} (hb : b < 18446744073709551616) (h : Hid (Bm.has b i = v)) :
    Calls Tryd.prog 16 #[.int .u64 (b : Int), .int .i64 i] w fun e w' => e = .returned (.bool v) ∧ w = w' := by
  rw [← h.out]; exact rhas_any b i w hb

theorem cut_le (i : Int) : Bm.cut i ≤ 64 := by unfold Bm.cut; split; omega; split <;> omega
theorem cut_lt {k : Nat} {i : Int} : k < Bm.cut i ↔ (k : Int) < 64 ∧ (k : Int) < i := by
  unfold Bm.cut; split; omega; split <;> omega

set_option maxHeartbeats 400000 in
theorem rposition_any (b : Nat) (i : Int) (w : World) (hb : b < 18446744073709551616) :
    Calls Tryd.prog 17 #[.int .u64 (b : Int), .int .i64 i] w fun e w' => e = .returned (.int .i64 (Bm.position b i : Nat)) ∧ w = w' := by
  have hc := cut_le i
  have hlt := fun k => @cut_lt k i
  have Hlt := Lib.hid hlt
  have Hpos := Lib.hid (show Bm.position b i = Bm.pop (Bm.cut i) b from rfl)
  clear hlt
  generalize Bm.cut i = c at *
  go_enter Tryd.func17, Tryd.ntmps17
  go_wp2_with fail
  go_loop [5, 6] (fun n k => ∃ j : Nat, j ≤ c ∧ k = .int .i64 j ∧ n = .int .i64 (Bm.pop j b : Nat)) (fun _ k => c - (intOf k).toNat)
  case atStart => exact ⟨0, Nat.zero_le _, rfl, by rw [Bm.pop_none]; rfl⟩
  case round =>
    obtain ⟨j, hj, rfl, rfl⟩ := hrel
    have hpl := Bm.pop_le j b
    have hps := Bm.pop_testBit j b
    by_cases hjc : j < c
    · have h12 := (Hlt.out j).1 hjc
      have h1 := h12.1
      have h2 := h12.2
      have hn := Bm.has_nat b j (by omega)
      cases hbit : b.testBit j
      · rw [hbit] at hps hn
        have Hps := Lib.hid hps
        have Hn := Lib.hid hn
        clear hps hn hbit h12
        go_wp2_with fail
        refine (rhas_eq hb Hn).mono ?_
        rintro e w' ⟨rfl, rfl⟩
        go_wp2_with fail
        go_round
        case rel => exact ⟨j + 1, by omega, by go_num, by rw [Hps.out]; rfl⟩
        case measure => simp [intOf]; omega
      · rw [hbit] at hps hn
        have Hps := Lib.hid hps
        have Hn := Lib.hid hn
        clear hps hn hbit h12
        go_wp2_with fail
        refine (rhas_eq hb Hn).mono ?_
        rintro e w' ⟨rfl, rfl⟩
        go_wp2_with fail
        go_round
        case rel => exact ⟨j + 1, by omega, by go_num, by rw [Hps.out]; rfl⟩
        case measure => simp [intOf]; omega
    · obtain rfl : j = c := by omega
      have hno : ¬ ((j : Int) < 64 ∧ (j : Int) < i) := fun h => hjc ((Hlt.out j).2 h)
      by_cases h1 : (j : Int) < 64
      · have h2 : ¬ (j : Int) < i := fun h => hno ⟨h1, h⟩
        clear hno hps
        go_wp2_with fail
        go_ret
        exact ⟨by rw [Hpos.out]; rfl, rfl⟩
      · clear hno hps
        go_wp2_with fail
        go_ret
        exact ⟨by rw [Hpos.out]; rfl, rfl⟩

theorem rposition_eq {b : Nat} {i : Int} {v : Nat} {w : World} (hb : b < 18446744073709551616) (h : Hid (Bm.position b i = v)) :
    Calls Tryd.prog 17 #[.int .u64 (b : Int), .int .i64 i] w fun e w' => e = .returned (.int .i64 (v : Int)) ∧ w = w' := by
  rw [← h.out]; exact rposition_any b i w hb

theorem rcount_eq {b v : Nat} {w : World} (hb : b < 18446744073709551616) (h : Hid (Bm.pop 64 b = v)) :
    Calls Tryd.prog 21 #[.int .u64 (b : Int)] w fun e w' => e = .returned (.int .i64 (v : Int)) ∧ w = w' := by
  have HA := Lib.hid (show Bm.position b 64 = v by rw [Bm.position_all]; exact h.out)
  clear h
  go_enter Tryd.func21, Tryd.ntmps21
  go_wp2_with fail
  refine (rposition_eq hb HA).mono ?_
  rintro e w' ⟨rfl, rfl⟩
  go_wp2_with fail
  go_ret
  exact ⟨rfl, rfl⟩

theorem rwith_any (b : Nat) (i : Int) (w : World) (hb : b < 18446744073709551616) :
    Calls Tryd.prog 18 #[.int .u64 (b : Int), .int .i64 i] w fun e w' => e = .returned (.int .u64 (Bm.withE b i : Nat)) ∧ w = w' := by
  by_cases h0 : i < 0
  · have hv : Bm.withE b i = b := by unfold Bm.withE; rw [if_neg (by omega)]
    have Hv := Lib.hid hv
    clear hv
    go_enter Tryd.func18, Tryd.ntmps18
    go_wp2_with fail
    go_ret
    exact ⟨by rw [Hv.out]; rfl, rfl⟩
  · by_cases h1 : 63 < i
    · have hv : Bm.withE b i = b := by unfold Bm.withE; rw [if_neg (by omega)]
      have Hv := Lib.hid hv
      clear hv
      go_enter Tryd.func18, Tryd.ntmps18
      go_wp2_with fail
      go_ret
      exact ⟨by rw [Hv.out]; rfl, rfl⟩
    · have hv : Bm.withE b i = b ||| 2 ^ i.toNat := by unfold Bm.withE; rw [if_pos (by omega)]
      obtain ⟨n, rfl⟩ := Int.eq_ofNat_of_zero_le (show 0 ≤ i by omega)
      have hn : n < 64 := by omega
      have hp := two_pow_lt n hn
      rw [Int.toNat_natCast] at hv
      have Hv := Lib.hid hv
      have hk : bits .or .u64 (b : Int) (IntKind.u64.wrap (2 ^ n)) = ((b ||| 2 ^ n : Nat) : Int) := by
        rw [wrap_pow n hn, bits_or_u64_nat _ _ hb hp]
      have hd : decide (63 < (n : Int)) = false := by simp; omega
      clear hv hp
      go_enter Tryd.func18, Tryd.ntmps18
      go_wp2_with fail
      go_ret
      exact ⟨by rw [Hv.out]; rfl, rfl⟩
theorem rwith_eq {b : Nat} {i : Int} {v : Nat} {w : World} (hb : b < 18446744073709551616) (h : Hid (Bm.withE b i = v)) :
    Calls Tryd.prog 18 #[.int .u64 (b : Int), .int .i64 i] w fun e w' => e = .returned (.int .u64 (v : Int)) ∧ w = w' := by
  rw [← h.out]; exact rwith_any b i w hb

theorem rwithout_any (b : Nat) (i : Int) (w : World) (hb : b < 18446744073709551616) :
    Calls Tryd.prog 19 #[.int .u64 (b : Int), .int .i64 i] w fun e w' => e = .returned (.int .u64 (Bm.withoutE b i : Nat)) ∧ w = w' := by
  cases h : Bm.has b i
  · have hv : Bm.withoutE b i = b := by unfold Bm.withoutE; rw [h]; rfl
    have Hv := Lib.hid hv
    have H := Lib.hid h
    clear hv h
    go_enter Tryd.func19, Tryd.ntmps19
    go_wp2_with fail
    refine (rhas_eq hb H).mono ?_
    rintro e w' ⟨rfl, rfl⟩
    go_wp2_with fail
    go_ret
    exact ⟨by rw [Hv.out]; rfl, rfl⟩
  · have hv : Bm.withoutE b i = b - 2 ^ i.toNat := by unfold Bm.withoutE; rw [h]; rfl
    have hr : 0 ≤ i ∧ i < 64 := by
      unfold Bm.has at h
      simp at h
      omega
    obtain ⟨n, rfl⟩ := Int.eq_ofNat_of_zero_le hr.1
    have hn : n < 64 := by omega
    have hbit : b.testBit n = true := by rw [← Bm.has_nat b n hn]; exact h
    have hge : 2 ^ n ≤ b := Nat.ge_two_pow_of_testBit hbit
    have hp := two_pow_lt n hn
    rw [Int.toNat_natCast] at hv
    have hk : IntKind.u64.wrap ((b : Int) - IntKind.u64.wrap (2 ^ n)) = ((b - 2 ^ n : Nat) : Int) := by
      rw [wrap_pow n hn, show (b : Int) - ((2 ^ n : Nat) : Int) = ((b - 2 ^ n : Nat) : Int) by omega, wrap_nat _ (Nat.lt_of_le_of_lt (Nat.sub_le _ _) hb)]
    have Hv := Lib.hid hv
    have H := Lib.hid h
    have hr2 := hr.2
    clear hv h hbit hge hp hr
    go_enter Tryd.func19, Tryd.ntmps19
    go_wp2_with fail
    refine (rhas_eq hb H).mono ?_
    rintro e w' ⟨rfl, rfl⟩
    go_wp2_with fail
    go_ret
    exact ⟨by rw [Hv.out]; rfl, rfl⟩
theorem rwithout_eq {b : Nat} {i : Int} {v : Nat} {w : World} (hb : b < 18446744073709551616) (h : Hid (Bm.withoutE b i = v)) :
    Calls Tryd.prog 19 #[.int .u64 (b : Int), .int .i64 i] w fun e w' => e = .returned (.int .u64 (v : Int)) ∧ w = w' := by
  rw [← h.out]; exact rwithout_any b i w hb
end Go.Proofs.YtldmkoabkiphoaaDoor
