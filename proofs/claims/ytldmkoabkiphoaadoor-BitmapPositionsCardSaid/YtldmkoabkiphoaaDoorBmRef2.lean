/- The walks of the reference's Indices and At, and of ctriehelp.Equal of numbers. -/
import Derived.Test.YtldmkoabkiphoaaDoorBmRef
namespace Go.Proofs.YtldmkoabkiphoaaDoor
open Go.RowKit

/-- The loop's relation of the reference's Indices. -/
def RIdxRel (w : World) (b k : Nat) (v : Value) (wr : World) : Prop :=
  wr.ownsRow w.heap.size 3 1 v (Bm.indicesTo k b).length (intVals (Bm.indicesTo k b)) ∧ Below w.heap.size w wr

theorem RIdxRel.hit {w : World} {b k : Nat} {v : Value} {wr : World} (h : RIdxRel w b k v wr) (hb : b.testBit k = true)
    {v' : Value} {w1 : World} {o : Obj} (hown : w1.ownsRow w.heap.size 3 1 v' ((Bm.indicesTo k b).length + 1) (intVals (Bm.indicesTo k b) ++ [Value.int .i64 (k : Int)])) (hg : (wr.alloc o).grownBy w1 v.ownBlock) :
    RIdxRel w b (k + 1) v' w1 := by
  obtain ⟨h2, h3⟩ := h
  refine ⟨?_, ?_⟩
  · rw [Bm.indicesTo_succ, hb]; simpa [intVals] using hown
  · refine (h3.alloc h3.size o).grown hg (by have := h3.size; simp; omega) ?_
    intro k hk
    exact (h2.lt k hk).1
theorem RIdxRel.miss {w : World} {b k : Nat} {v : Value} {wr : World} (h : RIdxRel w b k v wr) (hb : b.testBit k = false) : RIdxRel w b (k + 1) v wr := by
  unfold RIdxRel
  rw [Bm.indicesTo_succ, hb]; simpa [RIdxRel] using h

set_option maxHeartbeats 800000 in
theorem rindices_any (b : Nat) (w : World) (hb : b < 18446744073709551616) :
    Calls Tryd.prog 23 #[.int .u64 (b : Int)] w (RetInts w (Bm.indices b)) := by
  obtain ⟨i0, hi, hz0, hz1, hz2⟩ := info_parts info_int
  go_enter Tryd.func23, Tryd.ntmps23
  go_wp2_with fail
  go_loopw [3, 4] (fun v k wr => ∃ j : Nat, j ≤ 64 ∧ k = .int .i64 j ∧ RIdxRel w b j v wr) (fun _ k _ => 64 - (intOf k).toNat)
  case atStart => exact ⟨0, Nat.zero_le _, rfl, by rw [Bm.indicesTo_none 0 b (fun j hj => absurd hj (by omega))]; exact World.ownsRow_nil _ _ _ _, Below.refl _ _⟩
  case round =>
    obtain ⟨j, hj, rfl, hR⟩ := hrel
    have HR := Lib.hid hR
    clear hR
    have hdl : (Bm.indicesTo j b).length ≤ 64 := by rw [Bm.length_indicesTo]; exact Nat.le_trans (Bm.pop_le _ _) hj
    by_cases hlt : j < 64
    · have hlt' : (j : Int) < 64 := by omega
      have hn := Bm.has_nat b j hlt
      cases hbit : b.testBit j
      · rw [hbit] at hn
        have Hn := Lib.hid hn
        have HR2 := Lib.hid (HR.out.miss hbit)
        clear hn hbit
        go_wp2_with fail
        refine (rhas_eq hb Hn).mono ?_
        rintro e w' ⟨rfl, rfl⟩
        go_wp2_with fail
        go_roundw
        case rel => exact ⟨j + 1, by omega, by go_num, HR2.out⟩
        case measure => simp [intOf]; omega
      · rw [hbit] at hn
        have Hn := Lib.hid hn
        have Hbit := Lib.hid hbit
        clear hn hbit
        go_wp2_with fail
        refine (rhas_eq hb Hn).mono ?_
        rintro e w' ⟨rfl, rfl⟩
        go_wp2_with (at_builtin; refine wpList_append_own _ rfl _ _ 31 rfl w.heap.size 3 i0 (.int .i64 0) 1 8 Tryd.underlying31 hi hz0 hz1 hz2 rfl (by decide) _ _ _ rfl (HR.out.1.alloc _) ⟨wr.heap.size, 0, none⟩ 1 1 [.int .i64 (j : Int)] rfl rfl clear_one ?c2 ?c3 ?c4 ?c5 ?_)
        case c2 => intro u hu; simp at hu; subst hu; rfl
        case c3 => unfold maxLen; omega
        case c4 => omega
        case c5 => have := HR.out.2.size; simp; omega
        intro v' w1 hown' hgrow _
        have R := HR.out.hit Hbit.out hown' hgrow
        have HR2 := Lib.hid R
        clear hown' hgrow R
        go_wp2
        go_roundw
        case rel => exact ⟨j + 1, by omega, by go_num, HR2.out⟩
        case measure => simp [intOf]; omega
    · obtain rfl : j = 64 := by omega
      go_wp2_with fail
      go_ret
      exact ⟨_, rfl, HR.out.1, HR.out.2⟩

theorem RetInts.slice {w : World} {xs : List Nat} {v : Value} {w' : World} (h : w'.ownsRow w.heap.size 3 1 v xs.length (intVals xs)) :
    (v = .slice none 0 0 ∧ xs = []) ∨ ∃ g cap, v = .slice (some ⟨g, 0, none⟩) xs.length cap ∧ ∀ j, j < xs.length → w'.cell? ⟨g, j, none⟩ = some (.int .i64 ((xs.getD j 0 : Nat) : Int)) := by
  rcases h.2 with ⟨hv, hn⟩ | ⟨g, cap, cur, hv, _⟩
  · exact .inl ⟨hv, List.eq_nil_of_length_eq_zero hn⟩
  · refine .inr ⟨g, cap, hv, fun j hj => ?_⟩
    have := h.cells (g := g) (by rw [hv]; rfl) j (.int .i64 ((xs.getD j 0 : Nat) : Int)) (by
      unfold intVals
      rw [List.getElem?_map, List.getD_eq_getElem?_getD, List.getElem?_eq_getElem hj]
      rfl)
    rw [← this]
    congr 1
    simp [Addr.add]

set_option maxHeartbeats 800000 in
theorem rat_any (b : Nat) (p : Int) (w : World) (hb : b < 18446744073709551616) :
    Calls Tryd.prog 20 #[.int .u64 (b : Int), .int .i64 p] w fun e w' => e = .returned (.int .i64 (Bm.at_ b p)) ∧ Below w.heap.size w w' := by
  obtain ⟨xs, hxs⟩ : ∃ xs, Bm.indices b = xs := ⟨_, rfl⟩
  have hll := Bm.length_indices b
  have hle := Bm.pop_le 64 b
  rw [← hll, hxs] at hle
  have hat : Bm.at_ b p = if 0 ≤ p ∧ p < xs.length then ((xs.getD p.toNat 0 : Nat) : Int) else -1 := by unfold Bm.at_; rw [hxs]
  have Hat := Lib.hid hat
  have Hxs := Lib.hid hxs
  clear hll hat hxs
  go_enter Tryd.func20, Tryd.ntmps20
  go_wp2_with fail
  refine (rindices_any b w hb).mono ?_
  rw [Hxs.out]
  rintro e w1 ⟨v, rfl, hown, hbel⟩
  have Hb := Lib.hid hbel
  rcases RetInts.slice hown with ⟨rfl, rfl⟩ | ⟨g, cap, rfl, hc⟩
  · clear hown hbel
    have Hval := Lib.hid (show Bm.at_ b p = -1 by rw [Hat.out, if_neg (by simp)])
    by_cases h0 : p < 0
    · go_wp2_with fail
      go_ret
      exact ⟨by rw [Hval.out]; rfl, Hb.out⟩
    · have h1 : decide (0 ≤ p) = true := by simp; omega
      go_wp2_with fail
      go_ret
      exact ⟨by rw [Hval.out]; rfl, Hb.out⟩
  · clear hown hbel
    by_cases h0 : p < 0
    · have Hval := Lib.hid (show Bm.at_ b p = -1 by rw [Hat.out, if_neg (by omega)])
      clear hc
      go_wp2_with fail
      go_ret
      exact ⟨by rw [Hval.out]; rfl, Hb.out⟩
    · by_cases h1 : (xs.length : Int) ≤ p
      · have Hval := Lib.hid (show Bm.at_ b p = -1 by rw [Hat.out, if_neg (by omega)])
        clear hc
        go_wp2_with fail
        go_ret
        exact ⟨by rw [Hval.out]; rfl, Hb.out⟩
      · have Hval := Lib.hid (show Bm.at_ b p = ((xs.getD p.toNat 0 : Nat) : Int) by rw [Hat.out, if_pos (by omega)])
        obtain ⟨n, rfl⟩ := Int.eq_ofNat_of_zero_le (show 0 ≤ p by omega)
        have hcn := hc n (by omega)
        have hd : decide (xs.length ≤ n) = false := by simp; omega
        have hn1 : n < xs.length := by omega
        clear hc h1 h0
        rw [Int.toNat_natCast] at Hval
        generalize xs.getD n 0 = z at hcn Hval
        go_wp2_with fail
        go_ret
        exact ⟨by rw [Hval.out]; rfl, Hb.out⟩
end Go.Proofs.YtldmkoabkiphoaaDoor
