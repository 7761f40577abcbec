/- The walks of arena's NewCell, Load, CAS. -/
import Derived.Test.YtifehcegnofpkaaGreatDoorArena
import Derived.Maps.AppendAt
namespace Go.Proofs.YtifehcegnofpkaaGreatDoor
open Go.RowKit

theorem info_Ref : (Tryz.prog.info? 46).map (fun i => (i.zero, i.size, i.bytes)) = some (some (.int .i64 0), 1, 8) := by kernel_rfl

theorem one_new {v : Value} {w : World} {t : TypeId} : ∀ j u, ([v] : List Value)[j]? = some u → (w.alloc (.cells #[v] t)).cell? ((⟨w.heap.size, 0, none⟩ : Addr).add j) = some u := by
  intro j u hj
  match j, hj with
  | 0, hj => simp at hj; subst hj; simp [Addr.add]

/-- What lies where, with another list of cells. -/
def Ghost.withCells (g : Ghost) (vc : Value) : Ghost := { g with vc := vc, N := fun k => g.N k ∨ vc.ownBlock = some k }

theorem grown_keep {w w' : World} {row : Option Nat} (h : w.grownBy w' row) : Keep (fun k => row = some k) w w' :=
  ⟨h.os, h.tape, h.output, h.size, fun k hk hn => h.block k hk (fun e => hn e.symm)⟩

theorem ArenaAt.pushCell {g : Ghost} {w w1 : World} {s : Ct.St} {x : Int} {vc' : Value} {t : TypeId} (h : ArenaAt g w s)
    (hown : w1.ownsRow 0 46 1 vc' (s.cells.length + 1) (s.cells.map (Value.int .i64) ++ [.int .i64 x])) (hg : (w.alloc (.cells #[.int .i64 x] t)).grownBy w1 g.vc.ownBlock)
    (hblk : ∀ k, vc'.ownBlock = some k → g.vc.ownBlock = some k ∨ w.heap.size ≤ k) :
    ArenaAt (g.withCells vc') (w1.setCell ⟨g.a, 1, none⟩ vc') (s.newCell x).1 ∧ Step g w (g.withCells vc') (w1.setCell ⟨g.a, 1, none⟩ vc') := by
  have hlt := h.lt
  have hk1 : Keep (fun k => g.vc.ownBlock = some k) w w1 := (Keep.alloc _ w _).trans (grown_keep hg) (fun _ h => .inl h)
  have hk2 : Keep g.Foot w (w1.setCell ⟨g.a, 1, none⟩ vc') := (hk1.mono (fun k _ hf => .inr (.inr hf)) : Keep g.Foot w w1).trans (Keep.setCell w1 ⟨g.a, 1, none⟩ vc' (F := fun k => k = g.a) rfl) (fun k hk => .inl (.inl hk))
  have hfn : ∀ k, g.Foot k → g.N k ∨ w.heap.size ≤ k := fun k hf => .inl (h.foot k hf)
  have hnew : ∀ k, (g.withCells vc').N k → g.N k ∨ w.heap.size ≤ k := by
    rintro k (hn | hn)
    · exact .inl hn
    · rcases hblk k hn with h1 | h1
      · exact .inl (h.foot k (.inr (.inr h1)))
      · exact .inr h1
  have ha1 : w1.heap[g.a]? = w.heap[g.a]? := hk1.block g.a hlt (h.ac)
  obtain ⟨xs, n1, n2⟩ := h.nodes
  have hne : vc'.ownBlock ≠ some g.a := by
    intro he
    rcases hblk _ he with h1 | h1
    · exact h.ac h1
    · omega
  refine ⟨⟨?_, ⟨xs, ?_, n2.keep hk2 hfn hnew⟩, ?_, ?_, h.an, hne, ?_, ?_⟩, ⟨rfl, hk2, hnew, fun k hn => .inl hn, ?_⟩⟩
  · show (w1.setCell ⟨g.a, 1, none⟩ vc').heap[g.a]? = _
    rw [heap_setCell_at w1 g.a 1 vc' _ _ _ (ha1.trans h.block)]
    rfl
  · refine ownsRow_keep (ownsRow_keep n1 hk1 (fun k hv e => h.nc k hv e)) (Keep.setCell w1 ⟨g.a, 1, none⟩ vc' (F := fun k => k = g.a) rfl) (fun k hv e => h.an (e ▸ hv))
  · have := ownsRow_keep hown (Keep.setCell w1 ⟨g.a, 1, none⟩ vc' (F := fun k => k = g.a) rfl) (fun k hv e => hne (by rw [hv, e]))
    show (w1.setCell ⟨g.a, 1, none⟩ vc').ownsRow 0 46 1 vc' _ _
    simpa [Ct.St.newCell] using this
  · rintro k (hf | hf | hf)
    · exact .inl (h.foot k (.inl hf))
    · exact .inl (h.foot k (.inr (.inl hf)))
    · exact .inr hf
  · intro k hv he
    rcases hblk k he with h1 | h1
    · exact h.nc k hv h1
    · have := (n1.lt k hv).2
      omega
  · rintro k (hf | hf)
    · exact Nat.lt_of_lt_of_le (h.nlt k hf) hk2.size
    · have := (hown.lt k hf).2
      simpa [World.setCell] using this
  · rintro k (hf | hf | hf)
    · exact .inl (.inl hf)
    · exact .inl (.inr (.inl hf))
    · rcases hblk k hf with h1 | h1
      · exact .inl (.inr (.inr h1))
      · exact .inr h1

set_option maxHeartbeats 800000 in
theorem newCell_any (g : Ghost) (w : World) (s : Ct.St) (x : Int) (h : ArenaAt g w s) (hr : s.Room) :
    Calls Tryz.prog 264 #[.pointer (some ⟨g.a, 0, none⟩), .int .i64 x] w (Does g w (.int .i64 (s.newCell x).2) (s.newCell x).1) := by
  obtain ⟨i0, hi, hz0, hz1, hz2⟩ := info_parts info_Ref
  have c1 := h.c1
  have fz := h.free 1
  have hlt := h.lt
  have hb : s.cells.length ≤ 274877906944 := by unfold Ct.St.Room Ct.St.size at hr; omega
  have H := Lib.hid h
  clear h hr
  go_enter Tryz.func264, Tryz.ntmps264
  go_wp2_with (at_builtin; refine wpList_append_own_at _ rfl _ _ 84 rfl 0 46 i0 (.int .i64 0) 1 8 Tryz.underlying84 hi hz0 hz1 hz2 rfl (by decide) _ _ _ rfl (H.out.cells.alloc _) ⟨w.heap.size, 0, none⟩ 1 1 [.int .i64 x] rfl rfl one_new ?c2 ?c3 ?c4 ?c5 ?_)
  case c2 => intro u hu; simp at hu; subst hu; rfl
  case c3 => unfold maxLen; omega
  case c4 => omega
  case c5 => exact Nat.zero_le _
  intro v' w1 hown' hgrow _ hblk
  have hblk' : ∀ k, v'.ownBlock = some k → g.vc.ownBlock = some k ∨ w.heap.size ≤ k := by
    intro k hk
    rcases hblk with e | e
    · exact .inl (e ▸ hk)
    · rw [e] at hk
      injection hk with hk
      right
      have : (w.alloc (.cells #[Value.int .i64 x] 46)).heap.size = w.heap.size + 1 := by simp
      omega
  have R := Lib.hid (H.out.pushCell hown' hgrow hblk')
  have hk1 : Keep (fun k => g.vc.ownBlock = some k) w w1 := (Keep.alloc _ w _).trans (grown_keep hgrow) (fun _ h => .inl h)
  have d1 : w1.cell? ⟨g.a, 1, none⟩ = some g.vc := hk1.cell c1 H.out.ac
  have f1 : w1.frozen? ⟨g.a, 1, none⟩ = false := by
    rw [World.frozen?_of_block (w := w) (hk1.block g.a hlt H.out.ac)]; exact fz
  obtain ⟨ad, cap, hv'⟩ := own_len hown'
  have hsz : g.a < w1.heap.size := Nat.lt_of_lt_of_le hlt hk1.size
  clear hown' hgrow hblk hblk' hk1 c1 fz
  subst hv'
  go_wp2_with fail
  go_ret
  exact ⟨rfl, _, R.out.1, R.out.2⟩
end Go.Proofs.YtifehcegnofpkaaGreatDoor
