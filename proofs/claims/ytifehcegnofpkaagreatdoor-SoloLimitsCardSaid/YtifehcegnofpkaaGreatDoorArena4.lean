/- The walk of arena's CAS. -/
import Derived.Test.YtifehcegnofpkaaGreatDoorArena3
namespace Go.Proofs.YtifehcegnofpkaaGreatDoor
open Go.RowKit

set_option maxHeartbeats 800000 in
theorem cas_any (g : Ghost) (w : World) (s : Ct.St) (c old new : Int) (h : ArenaAt g w s) (hr : s.Room) :
    Calls Tryz.prog 262 #[.pointer (some ⟨g.a, 0, none⟩), .int .i64 c, .int .i64 old, .int .i64 new] w (Does g w (.bool (s.cas c old new).2) (s.cas c old new).1) := by
  have c3 := h.c3
  have fz := h.free 3
  have hb : s.acc ≤ 274877906944 := by unfold Ct.St.Room Ct.St.size at hr; omega
  have hb2 : s.cells.length ≤ 274877906944 := by unfold Ct.St.Room Ct.St.size at hr; omega
  have h1 := h.setAcc (s.acc + 1)
  have st := Step.setCell (g := g) w 3 (.int .i64 ((s.acc + 1 : Nat) : Int))
  have hw : (w.setCell ⟨g.a, 3, none⟩ (.int .i64 ((s.acc + 1 : Nat) : Int))) = w.setCell ⟨g.a, 3, none⟩ (.int .i64 ((s.acc : Int) + 1)) := by
    rw [show ((s.acc + 1 : Nat) : Int) = (s.acc : Int) + 1 by omega]
  rw [hw] at h1 st
  generalize hW : w.setCell ⟨g.a, 3, none⟩ (.int .i64 ((s.acc : Int) + 1)) = W at h1 st
  have HW := Lib.hid hW
  have hhas := hasCell_any g W _ c h1
  have e1 : ({ s with acc := s.acc + 1 } : Ct.St).hasCell c = s.hasCell c := rfl
  rw [e1] at hhas
  have H1 := Lib.hid h1; have HS := Lib.hid st; have HH := Lib.hid hhas
  clear h h1 st hhas hw hW hr e1
  cases hc : s.hasCell c
  · have hsw : s.swaps c old = false := by unfold Ct.St.swaps; rw [hc]; rfl
    have Hv := Lib.hid (show s.cas c old new = ({ s with acc := s.acc + 1 }, false) by unfold Ct.St.cas; rw [hsw]; rfl)
    rw [hc] at HH
    clear hc hsw
    go_enter Tryz.func262, Tryz.ntmps262
    go_wp2_with fail
    rw [HW.out]
    refine HH.out.mono ?_
    rintro e w' ⟨rfl, rfl⟩
    go_wp2_with fail
    go_ret
    rw [Hv.out]
    exact ⟨rfl, g, H1.out, HS.out⟩
  · have hcr : 1 ≤ c ∧ c ≤ s.cells.length := by unfold Ct.St.hasCell at hc; simpa using hc
    have hsw : s.swaps c old = (s.cells.getD (c.toNat - 1) 0 == old) := by unfold Ct.St.swaps; rw [hc]; rfl
    obtain ⟨n, rfl⟩ : ∃ n : Nat, c = n + 1 := ⟨(c - 1).toNat, by omega⟩
    rw [show ((n : Int) + 1).toNat - 1 = n by omega] at hsw
    have hn : n < s.cells.length := by omega
    obtain ⟨b, cap, hvc, hcell, hfr, ho⟩ := H1.out.cellAt (j := n) hn
    have c1 := H1.out.c1
    rw [hvc] at c1
    rw [hc] at HH
    simp only at c1 hcell
    have hst := H1.out.storeCell (x := new) ho hn
    have HST := Lib.hid hst
    have Hfin := Lib.hid (show s.cas ((n : Int) + 1) old new = ({ s with acc := s.acc + 1, cells := if s.swaps ((n : Int) + 1) old then s.cells.set n new else s.cells }, s.swaps ((n : Int) + 1) old) by
      unfold Ct.St.cas; rw [show ((n : Int) + 1).toNat - 1 = n by omega])
    rw [hsw] at Hfin
    clear hst hc hcr hsw hvc ho
    generalize hz : s.cells.getD n 0 = z at *
    by_cases hzo : z = old
    · subst hzo
      have q1 : (z != z) = false := by simp
      have Hf2 := Lib.hid (show s.cas ((n : Int) + 1) z new = ({ s with acc := s.acc + 1, cells := s.cells.set n new }, true) by rw [Hfin.out]; simp)
      clear hz
      go_enter Tryz.func262, Tryz.ntmps262
      go_wp2_with fail
      rw [HW.out]
      refine HH.out.mono ?_
      rintro e w' ⟨rfl, rfl⟩
      go_wp2_with fail
      go_ret
      rw [Hf2.out]
      exact ⟨rfl, g, HST.out.1, HS.out.trans HST.out.2⟩
    · have q1 : (z != old) = true := by simp [hzo]
      have Hf2 := Lib.hid (show s.cas ((n : Int) + 1) old new = ({ s with acc := s.acc + 1 }, false) by
        rw [Hfin.out]; have : (z == old) = false := by simp [hzo]
        rw [this]; rfl)
      clear hz hzo
      go_enter Tryz.func262, Tryz.ntmps262
      go_wp2_with fail
      rw [HW.out]
      refine HH.out.mono ?_
      rintro e w' ⟨rfl, rfl⟩
      go_wp2_with fail
      go_ret
      rw [Hf2.out]
      exact ⟨rfl, g, H1.out, HS.out⟩
end Go.Proofs.YtifehcegnofpkaaGreatDoor
