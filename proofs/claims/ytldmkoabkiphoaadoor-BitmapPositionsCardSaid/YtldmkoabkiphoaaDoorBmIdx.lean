/- The walks of bitmap.Indices and of the reference's functions. -/
import Derived.Test.YtldmkoabkiphoaaDoorBmLaws
import Derived.OwnWalk
namespace Go.Proofs.YtldmkoabkiphoaaDoor
open Go.RowKit

theorem TabAt.later {w wx : World} (hT : TabAt w) (hb : Below w.heap.size w wx) : TabAt wx := fun j hj => cell_later hb (hT j hj)

def intVals (xs : List Nat) : List Value := xs.map fun (i : Nat) => Value.int .i64 (i : Int)

/-- A call returns a new slice of these numbers; what was there before is as it was. -/
def RetInts (w : World) (xs : List Nat) (e : Ending) (w' : World) : Prop :=
  ∃ v, e = .returned v ∧ w'.ownsRow w.heap.size 3 1 v xs.length (intVals xs) ∧ Below w.heap.size w w'

/-- The loop's relation. -/
def IdxRel (w : World) (b cur : Nat) (dn : List Nat) (v : Value) (wr : World) : Prop :=
  Bm.indices b = dn ++ Bm.indices cur ∧ wr.ownsRow w.heap.size 3 1 v dn.length (intVals dn) ∧ Below w.heap.size w wr

theorem IdxRel.step {w : World} {b cur : Nat} {dn : List Nat} {v : Value} {wr : World} (h : IdxRel w b cur dn v wr) (hc : cur ≠ 0) (hlt : cur < 18446744073709551616)
    {v' : Value} {w1 : World} {o : Obj} (hown : w1.ownsRow w.heap.size 3 1 v' (dn.length + 1) (intVals dn ++ [Value.int .i64 ((Lib.ctz 64 cur : Nat) : Int)])) (hg : (wr.alloc o).grownBy w1 v.ownBlock) :
    IdxRel w b (cur &&& (cur - 1)) (dn ++ [Lib.ctz 64 cur]) v' w1 := by
  obtain ⟨h1, h2, h3⟩ := h
  refine ⟨?_, ?_, ?_⟩
  · rw [h1, Bm.indices_low cur hc (by simpa using hlt)]; simp
  · simpa [intVals] using hown
  · refine (h3.alloc h3.size o).grown hg (by have := h3.size; simp; omega) ?_
    intro k hk
    exact (h2.lt k hk).1

theorem info_int : (Tryd.prog.info? 3).map (fun i => (i.zero, i.size, i.bytes)) = some (some (.int .i64 0), 1, 8) := by kernel_rfl

theorem clear_one {v : Value} {w : World} : ∀ j u, ([v] : List Value)[j]? = some u → (w.alloc (.cells #[v] 3)).cell? ((⟨w.heap.size, 0, none⟩ : Addr).add j) = some u := by
  intro j u hj
  match j, hj with
  | 0, hj => simp at hj; subst hj; simp [Addr.add]

set_option maxHeartbeats 800000 in
theorem indices_any (b : Nat) (w : World) (hT : Hid (TabAt w)) (hb : b < 18446744073709551616) :
    Calls Tryd.prog 14 #[.int .u64 (b : Int)] w (RetInts w (Bm.indices b)) := by
  obtain ⟨i0, hi, hz0, hz1, hz2⟩ := info_parts info_int
  have hle := Bm.pop_le 64 b
  have hll := Bm.length_indices b
  rw [← hll] at hle
  have Hll := Lib.hid hll.symm
  obtain ⟨n, hn⟩ : ∃ n, (Bm.indices b).length = n := ⟨_, rfl⟩
  have Hcnt := Lib.hid (hll.symm.trans hn)
  rw [hn] at hle
  have Hn := Lib.hid hn
  clear hll hn Hll
  go_enter Tryd.func14, Tryd.ntmps14
  go_wp2_with fail
  refine (count_eq hb Hcnt).mono ?_
  rintro e w' ⟨rfl, rfl⟩
  go_wp2_with (at_make; refine wpList_make_own _ rfl _ _ 31 rfl w.heap.size 3 i0 (.int .i64 0) 1 Tryd.underlying31 hi hz0 hz1 .i64 .i64 _ n rfl rfl rfl (by rw [hz2]; omega) (by unfold maxLen; omega) (Nat.le_refl _) ?_; intro w0 hown0 hgrow0)
  go_loopw [0, 3] (fun x v wr => ∃ cur : Nat, ∃ dn : List Nat, cur < 18446744073709551616 ∧ x = .int .u64 (cur : Int) ∧ IdxRel w b cur dn v wr) (fun x _ _ => Bm.pop 64 (intOf x).toNat)
  case atStart => exact ⟨b, [], hb, rfl, by simp, hown0, (Below.refl _ _).grown hgrow0 (Nat.le_refl _) (fun k hk => by cases hk)⟩
  case round =>
    obtain ⟨cur, dn, hcl, rfl, hR⟩ := hrel
    have HR := Lib.hid hR
    have hTr : TabAt wr := hT.out.later hR.2.2
    have HTr := Lib.hid hTr
    clear hR hTr
    have hdl : dn.length ≤ n := by rw [← Hn.out, HR.out.1]; simp
    by_cases hz : cur = 0
    · subst hz
      go_wp2_with fail
      go_ret
      refine ⟨_, rfl, ?_, HR.out.2.2⟩
      have := HR.out.1
      rw [Bm.indices_zero, List.append_nil] at this
      rw [this]
      exact HR.out.2.1
    · have hz1' : ((cur : Int) != 0) = true := by simp; omega
      have hkey : bits .and .u64 (cur : Int) ((cur : Int) - 1) = ((cur &&& (cur - 1) : Nat) : Int) := by
        rw [show (cur : Int) - 1 = ((cur - 1 : Nat) : Int) by omega, and_u64 _ _ hcl (by omega)]
      go_wp2_with fail
      refine (tz64 _ hcl _ HTr.out).mono ?_
      rintro e w' ⟨rfl, rfl⟩
      go_wp2_with (at_builtin; refine wpList_append_own _ rfl _ _ 31 rfl w.heap.size 3 i0 (.int .i64 0) 1 8 Tryd.underlying31 hi hz0 hz1 hz2 rfl (by decide) _ _ _ rfl (HR.out.2.1.alloc _) ⟨wr.heap.size, 0, none⟩ 1 1 [.int .i64 ((Lib.ctz 64 cur : Nat) : Int)] rfl rfl clear_one ?c2 ?c3 ?c4 ?c5 ?_)
      case c2 => intro u hu; simp at hu; subst hu; rfl
      case c3 => unfold maxLen; omega
      case c4 => omega
      case c5 => have := HR.out.2.2.size; simp; omega
      intro v' w1 hown' hgrow _
      have R := HR.out.step hz hcl hown' hgrow
      have HR2 := Lib.hid R
      clear hown' hgrow R
      go_wp2
      go_roundw
      case rel => exact ⟨_, _, Nat.lt_of_le_of_lt Nat.and_le_left hcl, rfl, HR2.out⟩
      case measure =>
        have h1 := Bm.length_indices cur
        have h2 := Bm.length_indices (cur &&& (cur - 1))
        rw [Bm.indices_low cur hz (by simpa using hcl)] at h1
        simp only [intOf, Int.toNat_natCast]
        rw [← h1, ← h2]
        simp
end Go.Proofs.YtldmkoabkiphoaaDoor
