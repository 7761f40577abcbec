/- The walk of the statement BitmapExact. -/
import Derived.Test.YtldmkoabkiphoaaDoorBmEq
namespace Go.Proofs.YtldmkoabkiphoaaDoor
open Go.RowKit

theorem rat_eq {b : Nat} {p v : Int} {w : World} (hb : b < 18446744073709551616) (h : Hid (Bm.at_ b p = v)) :
    Calls Tryd.prog 20 #[.int .u64 (b : Int), .int .i64 p] w fun e w' => e = .returned (.int .i64 v) ∧ Below w.heap.size w w' := by
  rw [← h.out]; exact rat_any b p w hb

theorem below_step {B : Nat} {W w w1 : World} (h : Below B W w) (hB : B ≤ w.heap.size) (h1 : Below w.heap.size w w1) : Below B W w1 := h.trans (h1.mono hB)

set_option maxHeartbeats 2000000 in
theorem exact_any (b : Nat) (i : Int) (s : Nat) (w : World) (hT : Hid (TabAt w)) (hb : b < 18446744073709551616) (hs : s < 256) :
    Calls Tryd.prog 7 #[.int .u64 (b : Int), .int .i64 i, .int .u8 (s : Int)] w fun e w' => e = .returned (.bool true) ∧ Below w.heap.size w w' := by
  go_enter Tryd.func7, Tryd.ntmps7
  go_wp2_with fail
  obtain ⟨W, hW⟩ : ∃ W, w.alloc (.cells #[.int .i64 i, .int .i64 ((s : Int) % 70 - 3)] 3) = W := ⟨_, rfl⟩
  have hsz : W.heap.size = w.heap.size + 1 := by rw [← hW]; simp
  have hBW : Below w.heap.size w W := by rw [← hW]; exact (Below.refl _ _).alloc (Nat.le_refl _) _
  have c0 : W.cell? ⟨w.heap.size, 0, none⟩ = some (.int .i64 i) := by rw [← hW]; simp
  have c1 : W.cell? ⟨w.heap.size, 1, none⟩ = some (.int .i64 ((s : Int) % 70 - 3)) := by rw [← hW]; simp
  rw [hW]
  have HBW := Lib.hid hBW; have HSZ := Lib.hid hsz; have HC0 := Lib.hid c0; have HC1 := Lib.hid c1
  clear hW hsz hBW c0 c1
  go_loopw [16] (fun k wr => ∃ j : Nat, j ≤ 2 ∧ k = .int .i64 j ∧ Below W.heap.size W wr) (fun k _ => 2 - (intOf k).toNat)
  case atStart => exact ⟨0, by omega, rfl, Below.refl _ _⟩
  case round =>
    obtain ⟨j, hj, rfl, hB⟩ := hrel
    have HB := Lib.hid hB
    have HT := Lib.hid ((hT.out.later HBW.out).later hB)
    have Hle := Lib.hid (show W.heap.size ≤ wr.heap.size from hB.size)
    clear hB
    by_cases hlt : j < 2
    · obtain ⟨z, hz⟩ : ∃ z : Int, wr.cell? ⟨w.heap.size, j, none⟩ = some (.int .i64 z) := by
        match j, hlt with
        | 0, _ => exact ⟨_, cell_later HB.out HC0.out⟩
        | 1, _ => exact ⟨_, cell_later HB.out HC1.out⟩
      have hj2 : (j : Int) < 2 := by omega
      obtain ⟨v1, h1⟩ : ∃ v, Bm.has b z = v := ⟨_, rfl⟩
      obtain ⟨v2, h2⟩ : ∃ v, Bm.position b z = v := ⟨_, rfl⟩
      obtain ⟨v3, h3⟩ : ∃ v, Bm.withE b z = v := ⟨_, rfl⟩
      obtain ⟨v4, h4⟩ : ∃ v, Bm.withoutE b z = v := ⟨_, rfl⟩
      obtain ⟨v5, h5⟩ : ∃ v, Bm.at_ b z = v := ⟨_, rfl⟩
      have H1 := Lib.hid h1; have H2 := Lib.hid h2; have H3 := Lib.hid h3; have H4 := Lib.hid h4; have H5 := Lib.hid h5
      clear h1 h2 h3 h4 h5
      go_wp2_with fail
      refine (has_eq hb H1).mono ?_
      rintro e w' ⟨rfl, rfl⟩
      go_wp2_with fail
      refine (rhas_eq hb H1).mono ?_
      rintro e w' ⟨rfl, rfl⟩
      have q1 : (v1 != v1) = false := by simp
      go_wp2_with fail
      refine (position_eq hb H2).mono ?_
      rintro e w' ⟨rfl, rfl⟩
      go_wp2_with fail
      refine (rposition_eq hb H2).mono ?_
      rintro e w' ⟨rfl, rfl⟩
      go_wp2_with fail
      refine (withE_eq hb H3).mono ?_
      rintro e w' ⟨rfl, rfl⟩
      go_wp2_with fail
      refine (rwith_eq hb H3).mono ?_
      rintro e w' ⟨rfl, rfl⟩
      go_wp2_with fail
      refine (withoutE_eq hb H4).mono ?_
      rintro e w' ⟨rfl, rfl⟩
      go_wp2_with fail
      refine (rwithout_eq hb H4).mono ?_
      rintro e w' ⟨rfl, rfl⟩
      go_wp2_with fail
      refine (at_eq HT.out hb H5).mono ?_
      rintro e w' ⟨rfl, rfl⟩
      go_wp2_with fail
      refine (rat_eq hb H5).mono ?_
      rintro e w1 ⟨rfl, hB1⟩
      have HB1 := Lib.hid (below_step HB.out Hle.out hB1)
      clear hB1
      go_wp2_with fail
      go_roundw
      case rel => exact ⟨j + 1, by omega, by go_num, HB1.out⟩
      case measure => simp [intOf]; omega
    · have hj2 : ¬ (j : Int) < 2 := by omega
      obtain ⟨c, hc⟩ : ∃ c, Bm.pop 64 b = c := ⟨_, rfl⟩
      have HC := Lib.hid hc
      have HB0 := Lib.hid (HBW.out.trans (HB.out.mono (by rw [HSZ.out]; omega)))
      have hlen : (Bm.indices b).length ≤ 1000000 := by rw [Bm.length_indices]; exact Nat.le_trans (Bm.pop_le 64 b) (by omega)
      obtain ⟨xs, hxs⟩ : ∃ xs, Bm.indices b = xs := ⟨_, rfl⟩
      rw [hxs] at hlen
      have Hi := Lib.hid (hxs ▸ indices_any b wr HT hb)
      have Hr := Lib.hid (fun wx => hxs ▸ rindices_any b wx hb)
      clear hc hxs
      go_wp2_with fail
      refine (awake_any _ HT).mono ?_
      rintro e w' ⟨rfl, rfl⟩
      go_wp2_with fail
      refine (count_eq hb HC).mono ?_
      rintro e w' ⟨rfl, rfl⟩
      go_wp2_with fail
      refine (rcount_eq hb HC).mono ?_
      rintro e w' ⟨rfl, rfl⟩
      go_wp2_with fail
      refine Hi.out.mono ?_
      rintro e w1 ⟨va, rfl, hown1, hB1⟩
      have R1 := Lib.hid (ReadsInts.of_own hown1)
      have B1 := Lib.hid hB1
      clear hown1 hB1
      go_wp2_with fail
      refine (Hr.out w1).mono ?_
      rintro e w2 ⟨vb, rfl, hown2, hB2⟩
      have R2 := Lib.hid (ReadsInts.of_own hown2)
      have B2 := Lib.hid hB2
      clear hown2 hB2
      go_wp2_with fail
      refine (equal_any va vb xs w2 hlen (R1.out.later B2.out) R2.out).mono ?_
      rintro e w3 ⟨rfl, hB3⟩
      have B3 := Lib.hid hB3
      clear hB3
      go_wp2_with fail
      go_ret
      refine ⟨rfl, ?_⟩
      have s0 := HB0.out.size
      have s1 := B1.out.size
      have s2 := B2.out.size
      exact ((HB0.out.trans (B1.out.mono s0)).trans (B2.out.mono (by omega))).trans (B3.out.mono (by omega))
end Go.Proofs.YtldmkoabkiphoaaDoor
