/- The walk of the statement BitmapChanges. -/
import Derived.Test.YtldmkoabkiphoaaDoorBmLaws
namespace Go.Proofs.YtldmkoabkiphoaaDoor
open Go.RowKit

set_option maxHeartbeats 1000000 in
theorem changes_any (b i k : Nat) (w : World) (hT : Hid (TabAt w)) (hb : b < 18446744073709551616) (hi : i < 256) (hk : k < 256) :
    Calls Tryd.prog 5 #[.int .u64 (b : Int), .int .u8 (i : Int), .int .u8 (k : Int)] w fun e w' => e = .returned (.bool true) ∧ w = w' := by
  have hx : i % 64 < 64 := by omega
  have hy : k % 64 < 64 := by omega
  have k1 := Bm.has_withE b (i % 64) (i % 64) hx hx
  have k2 := Bm.has_withoutE b (i % 64) (i % 64) hx hx
  have k3 := Bm.without_with b (i % 64) hx
  have k4 := Bm.with_without b (i % 64) hx
  have k5 := Bm.has_withE b (i % 64) (k % 64) hx hy
  have k6 := Bm.has_withoutE b (i % 64) (k % 64) hx hy
  have hwl := Bm.withE_lt b ((i % 64 : Nat) : Int) hb
  have hol := Bm.withoutE_lt b ((i % 64 : Nat) : Int) hb
  obtain ⟨wi, hwi⟩ : ∃ wi, Bm.withE b ((i % 64 : Nat) : Int) = wi := ⟨_, rfl⟩
  obtain ⟨wo, hwo⟩ : ∃ wo, Bm.withoutE b ((i % 64 : Nat) : Int) = wo := ⟨_, rfl⟩
  obtain ⟨v, hv⟩ : ∃ v, Bm.has b ((k % 64 : Nat) : Int) = v := ⟨_, rfl⟩
  rw [hwi] at k1 k3 k4 k5 hwl
  rw [hwo] at k2 k3 k4 k6 hol
  rw [hv] at k5 k6
  simp only [decide_true, Bool.or_true, Bool.not_true, Bool.and_false] at k1 k2
  rw [Int.natCast_emod] at hwi hwo hv k1 k2 k3 k4 k5 k6
  have HWI := Lib.hid hwi; have HWO := Lib.hid hwo; have HV := Lib.hid hv
  have H1 := Lib.hid k1; have H2 := Lib.hid k2; have H3 := Lib.hid k3; have H4 := Lib.hid k4
  clear hwi hwo hv k1 k2 k3 k4
  by_cases hxy : i % 64 = k % 64
  · clear k5 k6
    have hz : ((i : Int) % 64 == (k : Int) % 64) = true := by simp; omega
    go_enter Tryd.func5, Tryd.ntmps5
    go_wp2_with fail
    refine (withE_eq hb HWI).mono ?_
    rintro e w' ⟨rfl, rfl⟩
    go_wp2_with fail
    refine (withoutE_eq hb HWO).mono ?_
    rintro e w' ⟨rfl, rfl⟩
    go_wp2_with fail
    refine (awake_any _ hT).mono ?_
    rintro e w' ⟨rfl, rfl⟩
    go_wp2_with fail
    refine (has_eq hwl H1).mono ?_
    rintro e w' ⟨rfl, rfl⟩
    go_wp2_with fail
    refine (has_eq hol H2).mono ?_
    rintro e w' ⟨rfl, rfl⟩
    go_wp2_with fail
    refine (withoutE_eq hwl H3).mono ?_
    rintro e w' ⟨rfl, rfl⟩
    go_wp2_with fail
    refine (withE_eq hol H4).mono ?_
    rintro e w' ⟨rfl, rfl⟩
    go_wp2_with fail
    go_ret
    exact ⟨by simp, rfl⟩
  · have hz : ((i : Int) % 64 == (k : Int) % 64) = false := by simp; omega
    simp only [hxy, decide_false, Bool.or_false, Bool.not_false, Bool.and_true] at k5 k6
    have H5 := Lib.hid k5; have H6 := Lib.hid k6
    clear k5 k6
    go_enter Tryd.func5, Tryd.ntmps5
    go_wp2_with fail
    refine (withE_eq hb HWI).mono ?_
    rintro e w' ⟨rfl, rfl⟩
    go_wp2_with fail
    refine (withoutE_eq hb HWO).mono ?_
    rintro e w' ⟨rfl, rfl⟩
    go_wp2_with fail
    refine (awake_any _ hT).mono ?_
    rintro e w' ⟨rfl, rfl⟩
    go_wp2_with fail
    refine (has_eq hwl H1).mono ?_
    rintro e w' ⟨rfl, rfl⟩
    go_wp2_with fail
    refine (has_eq hol H2).mono ?_
    rintro e w' ⟨rfl, rfl⟩
    go_wp2_with fail
    refine (withoutE_eq hwl H3).mono ?_
    rintro e w' ⟨rfl, rfl⟩
    go_wp2_with fail
    refine (withE_eq hol H4).mono ?_
    rintro e w' ⟨rfl, rfl⟩
    go_wp2_with fail
    refine (has_eq hwl H5).mono ?_
    rintro e w' ⟨rfl, rfl⟩
    go_wp2_with fail
    refine (has_eq hb HV).mono ?_
    rintro e w' ⟨rfl, rfl⟩
    go_wp2_with fail
    refine (has_eq hol H6).mono ?_
    rintro e w' ⟨rfl, rfl⟩
    go_wp2_with fail
    refine (has_eq hb HV).mono ?_
    rintro e w' ⟨rfl, rfl⟩
    go_wp2_with fail
    go_ret
    exact ⟨by cases v <;> rfl, rfl⟩
end Go.Proofs.YtldmkoabkiphoaaDoor
