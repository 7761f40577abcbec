/- The walk of the statement BitmapPositions. -/
import Derived.Test.YtldmkoabkiphoaaDoorBmEq
import Derived.Test.YtldmkoabkiphoaaDoorBmPlace
namespace Go.Proofs.YtldmkoabkiphoaaDoor
open Go.RowKit

theorem or_pow (s z : Nat) (hs : s < 18446744073709551616) (hz : z < 64) : bits .or .u64 (s : Int) (IntKind.u64.wrap (2 ^ z)) = ((s ||| 2 ^ z : Nat) : Int) := by
  rw [wrap_pow z hz, bits_or_u64_nat _ _ hs (two_pow_lt z hz)]

set_option maxHeartbeats 2000000 in
theorem positions_any (b : Nat) (w : World) (hT : Hid (TabAt w)) (hb : b < 18446744073709551616) :
    Calls Tryd.prog 6 #[.int .u64 (b : Int)] w fun e w' => e = .returned (.bool true) ∧ Below w.heap.size w w' := by
  have hb64 : b < 2 ^ 64 := by simpa using hb
  have hplace := Bm.at_place b
  have hall := Bm.orTo_all b hb64
  have hor := Bm.orTo_lt b hb64
  have hll := Bm.length_indices b
  have hle := Bm.pop_le 64 b
  have hi := indices_any b w hT hb
  rw [← hll] at hle
  generalize Bm.indices b = xs at *
  obtain ⟨n, hn⟩ : ∃ n, xs.length = n := ⟨_, rfl⟩
  rw [hn] at hle hll hall hplace hor
  have HP := Lib.hid hplace; have HA := Lib.hid hall; have HL := Lib.hid hll.symm; have HI := Lib.hid hi; have HN := Lib.hid hn; have HO := Lib.hid hor
  clear hplace hall hll hi hn hor hb64
  go_enter Tryd.func6, Tryd.ntmps6
  go_wp2_with fail
  refine HI.out.mono ?_
  rintro e w1 ⟨v, rfl, hown, hB⟩
  have HT1 := Lib.hid (hT.out.later hB)
  have HB := Lib.hid hB
  rcases ReadsInts.of_own hown with ⟨rfl, rfl⟩ | ⟨g, cap, rfl, hc⟩
  · obtain rfl : n = 0 := by rw [← HN.out]; rfl
    have hz : b = 0 := by
      have := HA.out
      rw [Bm.orTo_zero] at this
      exact this.symm
    subst hz
    clear hown hB
    go_wp2_with fail
    refine (awake_any _ HT1).mono ?_
    rintro e w' ⟨rfl, rfl⟩
    go_wp2_with fail
    refine (count_eq (b := 0) hb HL).mono ?_
    rintro e w' ⟨rfl, rfl⟩
    go_wp2_with fail
    refine wp_loop_rounds 1 ?_
    rw [rounds_succ]
    go_wp2_with fail
    go_ret
    exact ⟨rfl, HB.out⟩
  · rw [HN.out] at hc ⊢
    have HC := Lib.hid hc
    clear hown hB hc
    go_wp2_with fail
    refine (awake_any _ HT1).mono ?_
    rintro e w' ⟨rfl, rfl⟩
    go_wp2_with fail
    refine (count_eq hb HL).mono ?_
    rintro e w' ⟨rfl, rfl⟩
    go_wp2_with fail
    go_loop [4, 20] (fun s i => ∃ k : Nat, k ≤ n ∧ i = .int .i64 k ∧ s = .int .u64 (Bm.orTo xs k : Nat)) (fun _ i => n - (intOf i).toNat)
    case atStart => exact ⟨0, Nat.zero_le _, rfl, by rw [Bm.orTo_zero]; rfl⟩
    case round =>
      obtain ⟨k, hk, rfl, rfl⟩ := hrel
      by_cases hlt : k < n
      · obtain ⟨p1, p2, p3, p4, p5⟩ := HP.out k hlt
        have hck := HC.out k hlt
        have Hs := Lib.hid (Bm.orTo_succ xs k)
        have hol := HO.out k hk
        have hol' : Bm.orTo xs k < 18446744073709551616 := by simpa using hol
        have hcp : 0 < k → w1.cell? ⟨g, k - 1, none⟩ = some (.int .i64 ((xs.getD (k - 1) 0 : Nat) : Int)) := fun h => HC.out (k - 1) (by omega)
        clear hol
        generalize xs.getD k 0 = z at *
        have hkey := or_pow _ z hol' p1
        have q1 : (z : Int) < 64 := by omega
        have H2 := Lib.hid p2; have H3 := Lib.hid p3; have H4 := Lib.hid p4
        clear p2 p3 p4
        by_cases h0 : 0 < k
        · have hcp' := hcp h0
          have p5' := p5 h0
          clear hcp p5
          generalize xs.getD (k - 1) 0 = y at *
          obtain ⟨m, rfl⟩ : ∃ m, k = m + 1 := ⟨k - 1, by omega⟩
          rw [Nat.add_sub_cancel] at hcp'
          go_wp2_with fail
          refine (position_eq hb H2).mono ?_
          rintro e w' ⟨rfl, rfl⟩
          go_wp2_with fail
          refine (at_eq HT1.out hb H3).mono ?_
          rintro e w' ⟨rfl, rfl⟩
          go_wp2_with fail
          refine (has_eq hb H4).mono ?_
          rintro e w' ⟨rfl, rfl⟩
          go_wp2_with fail
          go_round
          case rel => exact ⟨m + 1 + 1, by omega, by go_num, by rw [Hs.out]⟩
          case measure => simp [intOf]; omega
        · obtain rfl : k = 0 := by omega
          clear hcp p5
          go_wp2_with fail
          refine (position_eq hb H2).mono ?_
          rintro e w' ⟨rfl, rfl⟩
          go_wp2_with fail
          refine (at_eq HT1.out hb H3).mono ?_
          rintro e w' ⟨rfl, rfl⟩
          go_wp2_with fail
          refine (has_eq hb H4).mono ?_
          rintro e w' ⟨rfl, rfl⟩
          go_wp2_with fail
          go_round
          case rel => exact ⟨0 + 1, by omega, by go_num, by rw [Hs.out]⟩
          case measure => simp [intOf]; omega
      · obtain rfl : k = n := by omega
        go_wp2_with fail
        go_ret
        exact ⟨by rw [HA.out]; simp, HB.out⟩
end Go.Proofs.YtldmkoabkiphoaaDoor
