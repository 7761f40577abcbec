/- The walk of the statement HandleNumbers. -/
import Derived.Test.YtahfjiloddfjaaaGreatDoorAwake
namespace Go.Proofs.YtahfjiloddfjaaaGreatDoor
open Go.RowKit
set_option linter.unusedVariables false

theorem rnumber_any (t i : Int) (w : World) : Calls Tryz.prog 7 #[.int .i64 t, .int .i64 i] w fun e w' => e = .returned (.int .i64 (Ct.numberC t i)) ∧ w = w' := by
  by_cases h1 : t < 0
  · have HE := Lib.hid (show Ct.numberC t i = -1 by unfold Ct.numberC; rw [if_pos (by omega)])
    go_enter Tryz.func7, Tryz.ntmps7
    go_wp2_with fail
    go_ret
    exact ⟨ret_int HE.out.symm, rfl⟩
  · by_cases h2 : 8 ≤ t
    · have HE := Lib.hid (show Ct.numberC t i = -1 by unfold Ct.numberC; rw [if_pos (by omega)])
      go_enter Tryz.func7, Tryz.ntmps7
      go_wp2_with fail
      go_ret
      exact ⟨ret_int HE.out.symm, rfl⟩
    · by_cases h3 : i < 0
      · have HE := Lib.hid (show Ct.numberC t i = -1 by unfold Ct.numberC; rw [if_pos (by omega)])
        go_enter Tryz.func7, Tryz.ntmps7
        go_wp2_with fail
        go_ret
        exact ⟨ret_int HE.out.symm, rfl⟩
      · by_cases h4 : 16 ≤ i
        · have HE := Lib.hid (show Ct.numberC t i = -1 by unfold Ct.numberC; rw [if_pos (by omega)])
          go_enter Tryz.func7, Tryz.ntmps7
          go_wp2_with fail
          go_ret
          exact ⟨ret_int HE.out.symm, rfl⟩
        · have HE := Lib.hid (show Ct.numberC t i = 1 + t * 16 + i by unfold Ct.numberC; rw [if_neg (by omega)]; omega)
          have b1 : 0 ≤ t := by omega
          have b2 : t ≤ 7 := by omega
          have b3 : 0 ≤ i := by omega
          have b4 : i ≤ 15 := by omega
          clear h1 h2 h3 h4
          have q1 : ¬ t < 0 := by omega
          have q2 : ¬ 8 ≤ t := by omega
          have q3 : ¬ i < 0 := by omega
          have q4 : ¬ 16 ≤ i := by omega
          go_enter Tryz.func7, Tryz.ntmps7
          go_wp2_with fail
          go_ret
          exact ⟨ret_int HE.out.symm, rfl⟩


theorem numberC_in {t i : Int} (h1 : 0 ≤ t) (h2 : t < 8) (h3 : 0 ≤ i) (h4 : i < 16) : Ct.numberC t i = 1 + 16 * t + i := by unfold Ct.numberC; rw [if_neg (by omega)]

set_option maxRecDepth 100000 in
set_option maxHeartbeats 3000000 in
theorem numbers_any (th ix : Int) (t i u k : Nat) (w : World) (h1 : t < 256) (h2 : i < 256) (h3 : u < 256) (h4 : k < 256) :
    Calls Tryz.prog 3 #[.int .i64 th, .int .i64 ix, .int .u8 (t : Int), .int .u8 (i : Int), .int .u8 (u : Int), .int .u8 (k : Int)] w fun e w' => e = .returned (.bool true) ∧ Below w.heap.size w w' := by
  obtain ⟨a, ha⟩ : ∃ z, (t : Int) % 8 = z := ⟨_, rfl⟩
  obtain ⟨b, hb⟩ : ∃ z, (i : Int) % 16 = z := ⟨_, rfl⟩
  obtain ⟨c, hc⟩ : ∃ z, (u : Int) % 8 = z := ⟨_, rfl⟩
  obtain ⟨d, hd⟩ : ∃ z, (k : Int) % 16 = z := ⟨_, rfl⟩
  have a0 : 0 ≤ a := by omega
  have a1 : a < 8 := by omega
  have b0 : 0 ≤ b := by omega
  have b1 : b < 16 := by omega
  have c0 : 0 ≤ c := by omega
  have c1 : c < 8 := by omega
  have d0 : 0 ≤ d := by omega
  have d1 : d < 16 := by omega
  have e1 := numberC_in a0 a1 b0 b1
  have e2 := numberC_in c0 c1 d0 d1
  have N1 := Lib.hid (fun W => number_any a b W)
  have N2 := Lib.hid (fun W => number_any c d W)
  obtain ⟨z1, hz1⟩ : ∃ z, Ct.numberC a b = z := ⟨_, rfl⟩
  obtain ⟨z2, hz2⟩ : ∃ z, Ct.numberC c d = z := ⟨_, rfl⟩
  obtain ⟨z3, hz3⟩ : ∃ z, Ct.numberC th ix = z := ⟨_, rfl⟩
  have N3 := Lib.hid (fun W => number_any th ix W)
  have N4 := Lib.hid (fun W => rnumber_any th ix W)
  have AW := Lib.hid awake_any
  rw [hz1] at N1 e1
  rw [hz2] at N2 e2
  rw [hz3] at N3 N4
  have g1 : 1 ≤ z1 := by omega
  have g2 : z1 ≤ 128 := by omega
  clear hz1 hz2 hz3
  by_cases p1 : a = c
  · subst p1
    by_cases p2 : b = d
    · subst p2
      obtain rfl : z1 = z2 := by omega
      clear e1 e2
      go_enter Tryz.func3, Tryz.ntmps3
      go_wp2_with fail
      refine (N1.out _).mono ?_
      rintro e w' ⟨rfl, rfl⟩
      go_wp2_with fail
      refine (N2.out _).mono ?_
      rintro e w' ⟨rfl, rfl⟩
      go_wp2_with fail
      refine (AW.out _).mono ?_
      rintro e w1 ⟨rfl, hb⟩
      have HB := Lib.hid hb
      clear hb
      go_wp2_with fail
      refine (N3.out _).mono ?_
      rintro e w' ⟨rfl, rfl⟩
      go_wp2_with fail
      refine (N4.out _).mono ?_
      rintro e w' ⟨rfl, rfl⟩
      go_wp2_with fail
      go_ret
      exact ⟨rfl, HB.out⟩
    · have p3 : (z1 == z2) = false := beq_eq_false_iff_ne.2 (by omega)
      have p4 : (b == d) = false := beq_eq_false_iff_ne.2 p2
      clear e1 e2
      go_enter Tryz.func3, Tryz.ntmps3
      go_wp2_with fail
      refine (N1.out _).mono ?_
      rintro e w' ⟨rfl, rfl⟩
      go_wp2_with fail
      refine (N2.out _).mono ?_
      rintro e w' ⟨rfl, rfl⟩
      go_wp2_with fail
      refine (AW.out _).mono ?_
      rintro e w1 ⟨rfl, hb⟩
      have HB := Lib.hid hb
      clear hb
      go_wp2_with fail
      refine (N3.out _).mono ?_
      rintro e w' ⟨rfl, rfl⟩
      go_wp2_with fail
      refine (N4.out _).mono ?_
      rintro e w' ⟨rfl, rfl⟩
      go_wp2_with fail
      go_ret
      exact ⟨rfl, HB.out⟩
  · have p3 : (z1 == z2) = false := beq_eq_false_iff_ne.2 (by omega)
    have p4 : (a == c) = false := beq_eq_false_iff_ne.2 p1
    clear e1 e2
    go_enter Tryz.func3, Tryz.ntmps3
    go_wp2_with fail
    refine (N1.out _).mono ?_
    rintro e w' ⟨rfl, rfl⟩
    go_wp2_with fail
    refine (N2.out _).mono ?_
    rintro e w' ⟨rfl, rfl⟩
    go_wp2_with fail
    refine (AW.out _).mono ?_
    rintro e w1 ⟨rfl, hb⟩
    have HB := Lib.hid hb
    clear hb
    go_wp2_with fail
    refine (N3.out _).mono ?_
    rintro e w' ⟨rfl, rfl⟩
    go_wp2_with fail
    refine (N4.out _).mono ?_
    rintro e w' ⟨rfl, rfl⟩
    go_wp2_with fail
    go_ret
    exact ⟨rfl, HB.out⟩
end Go.Proofs.YtahfjiloddfjaaaGreatDoor
