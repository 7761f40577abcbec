/- The walks of package arena's small methods. -/
import Derived.Test.YtifehcegnofpkaaGreatDoorRep
namespace Go.Proofs.YtifehcegnofpkaaGreatDoor
open Go.RowKit

theorem ArenaAt.c0 {g : Ghost} {w : World} {s : Ct.St} (h : ArenaAt g w s) : w.cell? ⟨g.a, 0, none⟩ = some g.vn := by simp [World.cell?, h.block]
theorem ArenaAt.c1 {g : Ghost} {w : World} {s : Ct.St} (h : ArenaAt g w s) : w.cell? ⟨g.a, 1, none⟩ = some g.vc := by simp [World.cell?, h.block]
theorem ArenaAt.c2 {g : Ghost} {w : World} {s : Ct.St} (h : ArenaAt g w s) : w.cell? ⟨g.a, 2, none⟩ = some (.int .i64 (s.gen : Nat)) := by simp [World.cell?, h.block]
theorem ArenaAt.c3 {g : Ghost} {w : World} {s : Ct.St} (h : ArenaAt g w s) : w.cell? ⟨g.a, 3, none⟩ = some (.int .i64 (s.acc : Nat)) := by simp [World.cell?, h.block]
theorem ArenaAt.free {g : Ghost} {w : World} {s : Ct.St} (h : ArenaAt g w s) (i : Nat) : w.frozen? ⟨g.a, i, none⟩ = false := by simp [World.frozen?, h.block]
theorem ArenaAt.lt {g : Ghost} {w : World} {s : Ct.St} (h : ArenaAt g w s) : g.a < w.heap.size := (Array.getElem?_eq_some_iff.1 h.block).1

/-- The length of a list that is owned. -/
theorem own_len {w : World} {base : Nat} {e : TypeId} {size : Nat} {v : Value} {n : Nat} {xs : List Value} (h : w.ownsRow base e size v n xs) : ∃ a cap, v = .slice a n cap := by
  rcases h.2 with ⟨rfl, rfl⟩ | ⟨g, cap, cur, rfl, _⟩
  · exact ⟨_, _, rfl⟩
  · exact ⟨_, _, rfl⟩

theorem nodes_any (g : Ghost) (w : World) (s : Ct.St) (h : ArenaAt g w s) (hr : s.Room) :
    Calls Tryz.prog 31 #[.pointer (some ⟨g.a, 0, none⟩)] w fun e w' => e = .returned (.int .i64 (s.nodes : Nat)) ∧ w = w' := by
  have c0 := h.c0
  obtain ⟨xs, hx, _⟩ := h.nodes
  obtain ⟨a, cap, hv⟩ := own_len hx
  rw [hv] at c0
  have hb : s.added.length ≤ 274877906944 := by unfold Ct.St.Room Ct.St.size at hr; omega
  have Hn := Lib.hid (show ((s.nodes : Nat) : Int) = 2 + (s.added.length : Int) by unfold Ct.St.nodes; omega)
  clear hx hv h hr
  go_enter Tryz.func31, Tryz.ntmps31
  go_wp2_with fail
  go_ret
  exact ⟨by rw [Hn.out]; rfl, rfl⟩

theorem nodes_any' (g : Ghost) (w : World) (s : Ct.St) (h : ArenaAt g w s) (hr : s.Room') :
    Calls Tryz.prog 31 #[.pointer (some ⟨g.a, 0, none⟩)] w fun e w' => e = .returned (.int .i64 (s.nodes : Nat)) ∧ w = w' := by
  have c0 := h.c0
  obtain ⟨xs, hx, _⟩ := h.nodes
  obtain ⟨a, cap, hv⟩ := own_len hx
  rw [hv] at c0
  have hb : s.added.length ≤ 274877906944 := by unfold Ct.St.Room' Ct.St.size at hr; omega
  have Hn := Lib.hid (show ((s.nodes : Nat) : Int) = 2 + (s.added.length : Int) by unfold Ct.St.nodes; omega)
  clear hx hv h hr
  go_enter Tryz.func31, Tryz.ntmps31
  go_wp2_with fail
  go_ret
  exact ⟨by rw [Hn.out]; rfl, rfl⟩

theorem hasCell_any (g : Ghost) (w : World) (s : Ct.St) (c : Int) (h : ArenaAt g w s) :
    Calls Tryz.prog 267 #[.pointer (some ⟨g.a, 0, none⟩), .int .i64 c] w fun e w' => e = .returned (.bool (s.hasCell c)) ∧ w = w' := by
  have c1 := h.c1
  obtain ⟨a, cap, hv⟩ := own_len h.cells
  rw [hv] at c1
  by_cases h1 : 1 ≤ c
  · have Hn := Lib.hid (show s.hasCell c = decide (c ≤ (s.cells.length : Int)) by unfold Ct.St.hasCell; simp [h1])
    clear hv h
    go_enter Tryz.func267, Tryz.ntmps267
    go_wp2_with fail
    go_ret
    exact ⟨by rw [Hn.out]; rfl, rfl⟩
  · have Hn := Lib.hid (show s.hasCell c = false by unfold Ct.St.hasCell; simp [h1])
    clear hv h
    go_enter Tryz.func267, Tryz.ntmps267
    go_wp2_with fail
    go_ret
    exact ⟨by rw [Hn.out]; rfl, rfl⟩

/-- A store into the arena's block. -/
theorem ArenaAt.set {g : Ghost} {w : World} {s : Ct.St} (h : ArenaAt g w s) (w' : World) (s' : Ct.St) (hk : Keep (fun k => k = g.a) w w')
    (hb : w'.heap[g.a]? = some (.cells #[g.vn, g.vc, .int .i64 (s'.gen : Nat), .int .i64 (s'.acc : Nat)] 86 (0, 0))) (ha : s'.added = s.added) (hc : s'.cells = s.cells) : ArenaAt g w' s' := by
  obtain ⟨xs, h1, h2⟩ := h.nodes
  have hN : ∀ k, k = g.a → g.N k ∨ w.heap.size ≤ k := fun k hk => .inl (h.foot k (.inl hk))
  refine ⟨hb, ⟨xs, ?_, ?_⟩, ?_, h.foot, h.an, h.ac, h.nc, fun k hk' => Nat.lt_of_lt_of_le (h.nlt k hk') hk.size⟩
  · rw [ha]; exact ownsRow_keep h1 hk (fun k hv e => h.an (by rw [hv, e]))
  · rw [ha]; exact h2.keep hk hN (fun k hk => .inl hk)
  · rw [hc]; exact ownsRow_keep h.cells hk (fun k hv e => h.ac (by rw [hv, e]))

theorem heap_setCell_at (w : World) (b i : Nat) (v : Value) (cs : Array Value) (t : TypeId) (fr : Nat × Nat) (h : w.heap[b]? = some (.cells cs t fr)) :
    (w.setCell ⟨b, i, none⟩ v).heap[b]? = some (.cells (cs.setIfInBounds i v) t fr) := by
  simp only [World.setCell, Array.getElem?_modify]
  rw [if_pos trivial, h]
  rfl

theorem ArenaAt.setGen {g : Ghost} {w : World} {s : Ct.St} (h : ArenaAt g w s) (n : Nat) : ArenaAt g (w.setCell ⟨g.a, 2, none⟩ (.int .i64 (n : Nat))) { s with gen := n } := by
  refine h.set _ _ (Keep.setCell w ⟨g.a, 2, none⟩ _ rfl) ?_ rfl rfl
  rw [heap_setCell_at w g.a 2 _ _ _ _ h.block]; rfl
theorem ArenaAt.setAcc {g : Ghost} {w : World} {s : Ct.St} (h : ArenaAt g w s) (n : Nat) : ArenaAt g (w.setCell ⟨g.a, 3, none⟩ (.int .i64 (n : Nat))) { s with acc := n } := by
  refine h.set _ _ (Keep.setCell w ⟨g.a, 3, none⟩ _ rfl) ?_ rfl rfl
  rw [heap_setCell_at w g.a 3 _ _ _ _ h.block]; rfl
theorem Step.setCell {g : Ghost} (w : World) (i : Nat) (v : Value) : Step g w g (w.setCell ⟨g.a, i, none⟩ v) :=
  ⟨rfl, Keep.setCell w _ v (.inl rfl), fun _ h => .inl h, fun _ h => h, fun _ h => .inl h⟩

/-- A method of the arena returns v and leaves the state s'. -/
def Does (g : Ghost) (w : World) (v : Value) (s' : Ct.St) (e : Ending) (w' : World) : Prop :=
  e = .returned v ∧ ∃ g', ArenaAt g' w' s' ∧ Step g w g' w'

theorem newGen_any (g : Ghost) (w : World) (s : Ct.St) (h : ArenaAt g w s) (hr : s.Room) :
    Calls Tryz.prog 265 #[.pointer (some ⟨g.a, 0, none⟩)] w (Does g w (.int .i64 s.newGen.2) s.newGen.1) := by
  have c2 := h.c2
  have fz := h.free 2
  have hb : s.gen ≤ 274877906944 := by unfold Ct.St.Room Ct.St.size at hr; omega
  have H := Lib.hid h
  clear h hr
  go_enter Tryz.func265, Tryz.ntmps265
  go_wp2_with fail
  go_ret
  exact ⟨rfl, g, H.out.setGen (s.gen + 1), Step.setCell w _ _⟩
end Go.Proofs.YtifehcegnofpkaaGreatDoor
