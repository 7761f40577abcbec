/- The walks of arena's Load and CAS. -/
import Derived.Test.YtifehcegnofpkaaGreatDoorArena2
namespace Go.Proofs.YtifehcegnofpkaaGreatDoor
open Go.RowKit

/-- A place of an owned row of single cells. -/
theorem own_at {w : World} {base : Nat} {e : TypeId} {v : Value} {n : Nat} {xs : List Value} (h : w.ownsRow base e 1 v n xs) {j : Nat} (hj : j < n) :
    ∃ b cap, v = .slice (some ⟨b, 0, none⟩) n cap ∧ (∃ u, xs[j]? = some u ∧ w.cell? ⟨b, j, none⟩ = some u) ∧ w.frozen? ⟨b, j, none⟩ = false ∧ v.ownBlock = some b := by
  obtain ⟨hl, h2⟩ := h
  rcases h2 with ⟨_, hn⟩ | ⟨g, cap, cur, rfl, hb, hg, hc, hm, hcs, ht⟩
  · omega
  · refine ⟨g, cap, rfl, ?_, ?_, rfl⟩
    · have hx : j < xs.length := by omega
      refine ⟨xs[j], List.getElem?_eq_getElem hx, ?_⟩
      rw [cell_of_row w g j cur e (0, 0) hg]
      have : (cur.toList.take (n * 1))[j]? = xs[j]? := by rw [ht]
      rw [List.getElem?_take, if_pos (by omega), List.getElem?_eq_getElem hx] at this
      simpa using this
    · simp [World.frozen?, hg]

theorem ArenaAt.cellAt {g : Ghost} {w : World} {s : Ct.St} (h : ArenaAt g w s) {j : Nat} (hj : j < s.cells.length) :
    ∃ b cap, g.vc = .slice (some ⟨b, 0, none⟩) s.cells.length cap ∧ w.cell? ⟨b, j, none⟩ = some (.int .i64 (s.cells.getD j 0)) ∧ w.frozen? ⟨b, j, none⟩ = false ∧ g.vc.ownBlock = some b := by
  obtain ⟨b, cap, hv, ⟨u, hu, hc⟩, hf, ho⟩ := own_at h.cells hj
  refine ⟨b, cap, hv, ?_, hf, ho⟩
  rw [hc]
  rw [List.getElem?_map, List.getElem?_eq_getElem hj] at hu
  simp at hu
  rw [← hu, List.getD_eq_getElem?_getD, List.getElem?_eq_getElem hj]
  rfl

theorem ArenaAt.storeCell {g : Ghost} {w : World} {s : Ct.St} {b j : Nat} (h : ArenaAt g w s) (hb : g.vc.ownBlock = some b) (hj : j < s.cells.length) (x : Int) :
    ArenaAt g (w.setCell ⟨b, j, none⟩ (.int .i64 x)) { s with cells := s.cells.set j x } ∧ Step g w g (w.setCell ⟨b, j, none⟩ (.int .i64 x)) := by
  have hk : Keep (fun k => k = b) w (w.setCell ⟨b, j, none⟩ (.int .i64 x)) := Keep.setCell w ⟨b, j, none⟩ _ rfl
  have hfb : g.Foot b := .inr (.inr hb)
  have hN : ∀ k, k = b → g.N k ∨ w.heap.size ≤ k := fun k hk => .inl (hk ▸ h.foot b hfb)
  obtain ⟨xs, n1, n2⟩ := h.nodes
  have hab : g.a ≠ b := fun e => h.ac (by rw [hb, e])
  refine ⟨⟨?_, ⟨xs, ownsRow_keep n1 hk (fun k hv e => h.nc k hv (e ▸ hb)), n2.keep hk hN (fun k hk => .inl hk)⟩, ?_, h.foot, h.an, h.ac, h.nc, fun k hk' => Nat.lt_of_lt_of_le (h.nlt k hk') hk.size⟩, ⟨rfl, hk.mono (fun k _ e => e ▸ hfb), fun _ h => .inl h, fun _ h => h, fun _ h => .inl h⟩⟩
  · rw [hk.block g.a h.lt hab]; exact h.block
  · obtain ⟨hl, h2⟩ := h.cells
    refine ⟨by simp, .inr ?_⟩
    rcases h2 with ⟨_, hn⟩ | ⟨g', cap, cur, hv, hbb, hg, hc, hm, hcs, ht⟩
    · omega
    · rw [hv] at hb
      simp [Value.ownBlock] at hb
      subst hb
      refine ⟨g', cap, cur.setIfInBounds j (.int .i64 x), by simpa using hv, hbb, heap_setCell_at w g' j _ _ _ _ hg, by simpa using hc, hm, by simpa using hcs, ?_⟩
      simp only [List.length_set, Nat.mul_one] at ht ⊢
      rw [List.map_set, ← ht]
      rw [Array.toList_setIfInBounds, List.take_set]

set_option maxHeartbeats 800000 in
theorem load_any (g : Ghost) (w : World) (s : Ct.St) (c : Int) (h : ArenaAt g w s) (hr : s.Room) :
    Calls Tryz.prog 263 #[.pointer (some ⟨g.a, 0, none⟩), .int .i64 c] w (Does g w (.int .i64 (s.load c).2) (s.load c).1) := by
  have c3 := h.c3
  have fz := h.free 3
  have hb : s.acc ≤ 274877906944 := by unfold Ct.St.Room Ct.St.size at hr; omega
  have hb2 : s.cells.length ≤ 274877906944 := by unfold Ct.St.Room Ct.St.size at hr; omega
  have h1 := h.setAcc (s.acc + 1)
  have st := Step.setCell (g := g) w 3 (.int .i64 ((s.acc + 1 : Nat) : Int))
  have hw : (w.setCell ⟨g.a, 3, none⟩ (.int .i64 ((s.acc + 1 : Nat) : Int))) = w.setCell ⟨g.a, 3, none⟩ (.int .i64 ((s.acc : Int) + 1)) := by
    rw [show ((s.acc + 1 : Nat) : Int) = (s.acc : Int) + 1 by omega]
  rw [hw] at h1 st
  generalize hW : w.setCell ⟨g.a, 3, none⟩ (.int .i64 ((s.acc : Int) + 1)) = W at h1 st
  have HW := Lib.hid hW
  have hhas := hasCell_any g W _ c h1
  have e1 : ({ s with acc := s.acc + 1 } : Ct.St).hasCell c = s.hasCell c := rfl
  rw [e1] at hhas
  have H1 := Lib.hid h1; have HS := Lib.hid st; have HH := Lib.hid hhas
  clear h h1 st hhas hw hW hr e1
  cases hc : s.hasCell c
  · have Hv := Lib.hid (show (s.load c).2 = 0 by unfold Ct.St.load; rw [hc]; rfl)
    rw [hc] at HH
    clear hc
    go_enter Tryz.func263, Tryz.ntmps263
    go_wp2_with fail
    rw [HW.out]
    refine HH.out.mono ?_
    rintro e w' ⟨rfl, rfl⟩
    go_wp2_with fail
    go_ret
    exact ⟨by rw [Hv.out]; rfl, g, H1.out, HS.out⟩
  · have hv : (s.load c).2 = s.cells.getD (c.toNat - 1) 0 := by unfold Ct.St.load; rw [hc]; rfl
    have hcr : 1 ≤ c ∧ c ≤ s.cells.length := by unfold Ct.St.hasCell at hc; simpa using hc
    obtain ⟨n, rfl⟩ : ∃ n : Nat, c = n + 1 := ⟨(c - 1).toNat, by omega⟩
    rw [show ((n : Int) + 1).toNat - 1 = n by omega] at hv
    have Hv := Lib.hid hv
    have hn : n < s.cells.length := by omega
    obtain ⟨b, cap, hvc, hcell, _, _⟩ := H1.out.cellAt (j := n) hn
    have c1 := H1.out.c1
    rw [hvc] at c1
    rw [hc] at HH
    simp only at c1 hcell
    generalize s.cells.getD n 0 = z at *
    clear hc hv hvc hcr
    go_enter Tryz.func263, Tryz.ntmps263
    go_wp2_with fail
    rw [HW.out]
    refine HH.out.mono ?_
    rintro e w' ⟨rfl, rfl⟩
    go_wp2_with fail
    go_ret
    exact ⟨by rw [Hv.out]; rfl, g, H1.out, HS.out⟩
end Go.Proofs.YtifehcegnofpkaaGreatDoor
