/- The handle table in memory; the walk of handle.New. -/
import Derived.Test.YtifehcegnofpkaaGreatDoorCreate
import Derived.Carry
namespace Go.Ct
/-- A table: the operations that were begun, the known tries, the iterators (by their blocks). -/
structure Tab where
  ops : List (Int × Int × Trie × Bool) := []
  tries : List (Int × Trie) := []
  iters : List (Int × Nat) := []
end Go.Ct
namespace Go.Proofs.YtifehcegnofpkaaGreatDoor
open Go.RowKit
set_option linter.unusedVariables false

def valBegun (b : Int × Ct.Trie × Bool) : Value := .agg #[.int .i64 b.1, .int .i64 b.2.1.root, .bool b.2.1.readOnly, .bool b.2.2]
def valTrie (t : Ct.Trie) : Value := .agg #[.int .i64 t.root, .bool t.readOnly]
def valIter (b : Nat) : Value := .pointer (some ⟨b, 0, none⟩)

structure TabAt (g : Ghost) (w : World) (hb m1 m2 m3 mask : Nat) (T : Ct.Tab) : Prop where
  blk : w.heap[hb]? = some (.cells #[g.sv, .int .u64 (mask : Nat), .map (some m1), .map (some m2), .map (some m3)] 93 (0, 0))
  ops : MapAt w m1 (T.ops.map fun p => (p.1, valBegun p.2))
  tries : MapAt w m2 (T.tries.map fun p => (p.1, valTrie p.2))
  iters : MapAt w m3 (T.iters.map fun p => (p.1, valIter p.2))
  inN : g.N hb ∧ g.N m1 ∧ g.N m2 ∧ g.N m3
  out : ¬ g.Foot hb ∧ ¬ g.Foot m1 ∧ ¬ g.Foot m2 ∧ ¬ g.Foot m3
  ne : m1 ≠ m2 ∧ m1 ≠ m3 ∧ m2 ≠ m3
theorem TabAt.cell {g : Ghost} {w : World} {hb m1 m2 m3 mask : Nat} {T : Ct.Tab} (h : TabAt g w hb m1 m2 m3 mask T) (i : Nat) : w.cell? ⟨hb, i, none⟩ = (#[g.sv, .int .u64 (mask : Nat), .map (some m1), .map (some m2), .map (some m3)] : Array Value)[i]? := cell_at h.blk i
theorem TabAt.c0 {g : Ghost} {w : World} {hb m1 m2 m3 mask : Nat} {T : Ct.Tab} (h : TabAt g w hb m1 m2 m3 mask T) : w.cell? ⟨hb, 0, none⟩ = some g.sv := h.cell 0
theorem TabAt.c1 {g : Ghost} {w : World} {hb m1 m2 m3 mask : Nat} {T : Ct.Tab} (h : TabAt g w hb m1 m2 m3 mask T) : w.cell? ⟨hb, 1, none⟩ = some (.int .u64 (mask : Nat)) := h.cell 1
theorem TabAt.c2 {g : Ghost} {w : World} {hb m1 m2 m3 mask : Nat} {T : Ct.Tab} (h : TabAt g w hb m1 m2 m3 mask T) : w.cell? ⟨hb, 2, none⟩ = some (.map (some m1)) := h.cell 2
theorem TabAt.c3 {g : Ghost} {w : World} {hb m1 m2 m3 mask : Nat} {T : Ct.Tab} (h : TabAt g w hb m1 m2 m3 mask T) : w.cell? ⟨hb, 3, none⟩ = some (.map (some m2)) := h.cell 3
theorem TabAt.c4 {g : Ghost} {w : World} {hb m1 m2 m3 mask : Nat} {T : Ct.Tab} (h : TabAt g w hb m1 m2 m3 mask T) : w.cell? ⟨hb, 4, none⟩ = some (.map (some m3)) := h.cell 4
theorem TabAt.lt {g : Ghost} {w : World} {hb m1 m2 m3 mask : Nat} {T : Ct.Tab} (h : TabAt g w hb m1 m2 m3 mask T) : hb < w.heap.size := (Array.getElem?_eq_some_iff.1 h.blk).1
theorem TabAt.nmap {g : Ghost} {w : World} {hb m1 m2 m3 mask : Nat} {T : Ct.Tab} (h : TabAt g w hb m1 m2 m3 mask T) : hb ≠ m1 ∧ hb ≠ m2 ∧ hb ≠ m3 := by
  have h0 := h.blk
  obtain ⟨x1, c1, h1, _⟩ := h.ops
  obtain ⟨x2, c2, h2, _⟩ := h.tries
  obtain ⟨x3, c3, h3, _⟩ := h.iters
  refine ⟨fun e => ?_, fun e => ?_, fun e => ?_⟩ <;> subst e <;> simp_all

/-- What changes none of the table's blocks leaves the table as it was. -/
theorem TabAt.keep {g g' : Ghost} {w w' : World} {hb m1 m2 m3 mask : Nat} {T : Ct.Tab} {F : Nat → Prop} (h : TabAt g w hb m1 m2 m3 mask T) (hk : Keep F w w') (hF : ¬ F hb ∧ ¬ F m1 ∧ ¬ F m2 ∧ ¬ F m3) (ea : g'.a = g.a) (old : ∀ k, g.N k → g'.N k) (foot : ∀ k, g'.Foot k → g.Foot k ∨ w.heap.size ≤ k) : TabAt g' w' hb m1 m2 m3 mask T := by
  have esv : g'.sv = g.sv := by unfold Ghost.sv; rw [ea]
  have l0 := h.lt; have l1 := h.ops.lt; have l2 := h.tries.lt; have l3 := h.iters.lt
  have nf : ∀ k, k < w.heap.size → ¬ g.Foot k → ¬ g'.Foot k := fun k hl hn hf => by rcases foot k hf with h1 | h1; exact hn h1; omega
  refine ⟨by rw [hk.block hb l0 hF.1, esv]; exact h.blk, h.ops.keep hk hF.2.1, h.tries.keep hk hF.2.2.1, h.iters.keep hk hF.2.2.2, ⟨old _ h.inN.1, old _ h.inN.2.1, old _ h.inN.2.2.1, old _ h.inN.2.2.2⟩, ⟨nf _ l0 h.out.1, nf _ l1 h.out.2.1, nf _ l2 h.out.2.2.1, nf _ l3 h.out.2.2.2⟩, h.ne⟩
theorem TabAt.step {g g' : Ghost} {w w' : World} {s : Ct.St} {hb m1 m2 m3 mask : Nat} {T : Ct.Tab} (h : TabAt g w hb m1 m2 m3 mask T) (_ha : ArenaAt g w s) (hs : Step g w g' w') : TabAt g' w' hb m1 m2 m3 mask T :=
  h.keep hs.keep h.out hs.a hs.old hs.foot
theorem TabAt.below {g : Ghost} {w w' : World} {hb m1 m2 m3 mask : Nat} {T : Ct.Tab} (h : TabAt g w hb m1 m2 m3 mask T) (hb' : Below w.heap.size w w') : TabAt g w' hb m1 m2 m3 mask T :=
  h.keep (Keep.below hb' (fun _ => False)) ⟨fun h => h, fun h => h, fun h => h, fun h => h⟩ rfl (fun _ h => h) (fun _ h => .inl h)

/-- The maps behind a store. -/
def tput (es : List (Int × Ct.Trie)) (k : Int) (t : Ct.Trie) : List (Int × Ct.Trie) := if es.any (fun p => p.1 == k) then es.map (fun p => if p.1 == k then (k, t) else p) else es ++ [(k, t)]
def bput (es : List (Int × Int × Ct.Trie × Bool)) (k : Int) (t : Int × Ct.Trie × Bool) : List (Int × Int × Ct.Trie × Bool) := if es.any (fun p => p.1 == k) then es.map (fun p => if p.1 == k then (k, t) else p) else es ++ [(k, t)]
theorem mput_map {α : Type} (f : α → Value) (es : List (Int × α)) (k : Int) (t : α) : mput (es.map fun p => (p.1, f p.2)) k (f t) = (if es.any (fun p => p.1 == k) then es.map (fun p => if p.1 == k then (k, t) else p) else es ++ [(k, t)]).map fun p => (p.1, f p.2) := by
  have ha : (es.map fun p => (p.1, f p.2)).any (fun p => p.1 == k) = es.any (fun p => p.1 == k) := by rw [List.any_map]; rfl
  unfold mput
  rw [ha]
  split
  · rw [List.map_map, List.map_map]
    apply List.map_congr_left
    intro p _
    simp only [Function.comp]
    split <;> rfl
  · simp
theorem mlook_map {α : Type} (f : α → Value) (es : List (Int × α)) (k : Int) : mlook (es.map fun p => (p.1, f p.2)) k = ((es.find? (fun p => p.1 == k)).map (·.2)).map f := by
  unfold mlook
  rw [List.find?_map]
  simp [Function.comp_def, Option.map_map]
theorem TabAt.upd2 {g : Ghost} {w W : World} {hb m1 m2 m3 mask : Nat} {T : Ct.Tab} {k : Int} {t : Ct.Trie} (h : TabAt g w hb m1 m2 m3 mask T) (hk : Keep (fun b => b = m2) w W) (hm : MapAt W m2 (mput (T.tries.map fun p => (p.1, valTrie p.2)) k (valTrie t))) : TabAt g W hb m1 m2 m3 mask { T with tries := tput T.tries k t } := by
  refine ⟨by rw [hk.block hb h.lt h.nmap.2.1]; exact h.blk, h.ops.keep hk h.ne.1, ?_, h.iters.keep hk (fun e => h.ne.2.2 e.symm), h.inN, h.out, h.ne⟩
  rw [mput_map] at hm
  exact hm
theorem TabAt.upd1 {g : Ghost} {w W : World} {hb m1 m2 m3 mask : Nat} {T : Ct.Tab} {k : Int} {t : Int × Ct.Trie × Bool} (h : TabAt g w hb m1 m2 m3 mask T) (hk : Keep (fun b => b = m1) w W) (hm : MapAt W m1 (mput (T.ops.map fun p => (p.1, valBegun p.2)) k (valBegun t))) : TabAt g W hb m1 m2 m3 mask { T with ops := bput T.ops k t } := by
  refine ⟨by rw [hk.block hb h.lt h.nmap.1]; exact h.blk, ?_, h.tries.keep hk (fun e => h.ne.1 e.symm), h.iters.keep hk (fun e => h.ne.2.1 e.symm), h.inN, h.out, h.ne⟩
  rw [mput_map] at hm
  exact hm
theorem ArenaAt.other {g : Ghost} {w W : World} {s : Ct.St} {m : Nat} (h : ArenaAt g w s) (hk : Keep (fun b => b = m) w W) (hN : g.N m) (hF : ¬ g.Foot m) : ArenaAt g W s := h.own hk hN hF

/-- What handle.New leaves. -/
def NewRes (g : Ghost) (w : World) (mask : Nat) (c : Ct.Trie × Ct.St) (e : Ending) (w' : World) : Prop :=
  e = .returned (.pointer (some ⟨w.heap.size + 3, 0, none⟩)) ∧ ∃ vn vc N, ArenaAt ⟨g.a, vn, vc, N⟩ w' c.2 ∧ TabAt ⟨g.a, vn, vc, N⟩ w' (w.heap.size + 3) w.heap.size (w.heap.size + 1) (w.heap.size + 2) mask { tries := [(0, c.1)] } ∧ Step g w ⟨g.a, vn, vc, N⟩ w'

theorem arena_more {g : Ghost} {w W : World} {s : Ct.St} (h : ArenaAt g w s) (hb : Below w.heap.size w W) : ArenaAt { g with N := fun k => g.N k ∨ (w.heap.size ≤ k ∧ k < W.heap.size) } W s :=
  h.keep (Keep.below hb (fun _ => False)) (N' := fun k => g.N k ∨ (w.heap.size ≤ k ∧ k < W.heap.size)) (fun _ h => h.elim) (fun _ h => h.elim) (fun k hk => hk.elim .inl (fun e => .inr e.1)) (fun _ h => .inl h) (fun k hk => hk.elim (fun h3 => Nat.lt_of_lt_of_le (h.nlt k h3) hb.size) (fun e => e.2))

set_option maxRecDepth 100000 in
set_option maxHeartbeats 800000 in
theorem handleNew_any (g : Ghost) (w : World) (s : Ct.St) (mask : Nat) (h : ArenaAt g w s) (hfin : Fin 400 s) :
    Calls Tryz.prog 18 #[g.sv, .int .u64 (mask : Nat)] w (NewRes g w mask (Ct.createC s)) := by
  have hNW := ((((News.nil w).alloc (.map #[] 0)).alloc (.map #[] 0)).alloc (.map #[] 0)).alloc (.cells #[g.sv, .int .u64 (mask : Nat), .map (some w.heap.size), .map (some (w.heap.size + 1)), .map (some (w.heap.size + 2))] 93)
  obtain ⟨W0, hW0⟩ : ∃ W, (((w.alloc (.map #[] 0)).alloc (.map #[] 0)).alloc (.map #[] 0)).alloc (.cells #[g.sv, .int .u64 (mask : Nat), .map (some w.heap.size), .map (some (w.heap.size + 1)), .map (some (w.heap.size + 2))] 93) = W := ⟨_, rfl⟩
  rw [hW0] at hNW
  have z := hNW.size
  simp at z
  have hA0 := arena_more h hNW.below
  have hem : ∀ j, (_ : List Obj)[j]? = some (.map #[] 0) → MapAt W0 (w.heap.size + j) [] := fun j hj => ⟨#[], 0, hNW.at_ j _ hj, rfl, by simp⟩
  have nf : ∀ k, w.heap.size ≤ k → ¬ g.Foot k := fun k hk hf => absurd (h.nlt k (h.foot k hf)) (by omega)
  have hT0 : TabAt { g with N := fun k => g.N k ∨ (w.heap.size ≤ k ∧ k < W0.heap.size) } W0 (w.heap.size + 3) w.heap.size (w.heap.size + 1) (w.heap.size + 2) mask {} :=
    ⟨hNW.at_ 3 _ rfl, hem 0 rfl, hem 1 rfl, hem 2 rfl, ⟨.inr (by omega), .inr (by omega), .inr (by omega), .inr (by omega)⟩, ⟨nf _ (by omega), nf _ (by omega), nf _ (by omega), nf _ (by omega)⟩, ⟨by omega, by omega, by omega⟩⟩
  have hcr := create_any { g with N := fun k => g.N k ∨ (w.heap.size ≤ k ∧ k < W0.heap.size) } W0.drew s (hA0.below ⟨rfl, rfl, rfl, Nat.le_refl _, fun _ _ => rfl⟩) hfin
  obtain ⟨cc, hcc⟩ : ∃ cc, Ct.createC s = cc := ⟨_, rfl⟩
  rw [hcc] at hcr ⊢
  have HC := Lib.hid hcr; have HA0 : Hid (ArenaAt { g with N := fun k => g.N k ∨ (w.heap.size ≤ k ∧ k < W0.heap.size) } W0.drew s) := hA0.below ⟨rfl, rfl, rfl, Nat.le_refl _, fun _ _ => rfl⟩
  have HT0 : Hid (TabAt { g with N := fun k => g.N k ∨ (w.heap.size ≤ k ∧ k < W0.heap.size) } W0.drew (w.heap.size + 3) w.heap.size (w.heap.size + 1) (w.heap.size + 2) mask {}) := hT0.below ⟨rfl, rfl, rfl, Nat.le_refl _, fun _ _ => rfl⟩
  have HCM := Lib.hid HT0.out.c3
  have HW := Lib.hid hW0; have HB := Lib.hid hNW.below; have HZ := Lib.hid z
  have hmm := @run_makeMap Tryz.prog
  have hnil2 : ∀ (T : TypeId) (v : Value) (w : World), (binOp BinOp.neq 88 (.iface T v) .nilIface).run Tryz.prog w = .ok (.bool true) w := fun _ _ _ => by kernel_rfl
  clear h hfin hNW hW0 z hA0 hem nf hT0 hcr hcc
  unfold Ghost.sv
  unfold Ghost.sv at HC
  go_enter Tryz.func18, Tryz.ntmps18
  go_wp2_with fail
  refine code_world HW.out ?_
  refine wp_region_held_drew (S := fun W' => W'.cell? ⟨w.heap.size + 3, 3, none⟩ = some (.map (some (w.heap.size + 1))) ∧ True) (by kernel_rfl) ⟨HCM.out, trivial⟩ (fun hS => ?_)
  refine wpAnyH_take (i := 0) (oi := { dst := (some 15), op := (Op.move (Operand.tmp 5)), type := 58, pos := "handle.go:54", after := #[], guard := none }) (v := .pointer (some ⟨w.heap.size + 3, 0, none⟩)) rfl (by kernel_rfl) (by kernel_rfl) (by kernel_rfl) (fun _ _ _ h => h) (Or.inl ⟨by rfl, fun W' hW => ?_⟩) hS ?_
  · go_simp
  (try simp only [Act.put, List.setIfInBounds_toArray, List.set_cons_zero, List.set_cons_succ])
  refine wpAnyH_take (i := 1) (oi := { dst := (some 16), op := (Op.nilCheck (Operand.tmp 15)), type := 0, pos := "handle.go:54", after := #[{ on := 0, ground := Ground.data }], guard := none }) (v := .pointer (some ⟨w.heap.size + 3, 0, none⟩)) rfl (by kernel_rfl) (by kernel_rfl) (by kernel_rfl) (fun _ _ _ h => h) (Or.inl ⟨by rfl, fun W' hW => ?_⟩) hS ?_
  · go_simp
  (try simp only [Act.put, List.setIfInBounds_toArray, List.set_cons_zero, List.set_cons_succ])
  refine wpAnyH_take (i := 2) (oi := { dst := (some 17), op := (Op.fieldAddr 93 (Operand.tmp 16) 3), type := 0, pos := "handle.go:54", after := #[{ on := 1, ground := Ground.data }], guard := none }) (v := .pointer (some ⟨w.heap.size + 3, 3, none⟩)) rfl (by kernel_rfl) (by kernel_rfl) (by kernel_rfl) (fun _ _ _ h => h) (Or.inl ⟨by rfl, fun W' hW => ?_⟩) hS ?_
  · go_simp
  (try simp only [Act.put, List.setIfInBounds_toArray, List.set_cons_zero, List.set_cons_succ])
  refine wpAnyH_take (i := 3) (oi := { dst := (some 18), op := (Op.load 90 (Operand.tmp 17)), type := 90, pos := "handle.go:54", after := #[{ on := 2, ground := Ground.data }], guard := none }) (v := .map (some (w.heap.size + 1))) rfl (by kernel_rfl) (by kernel_rfl) (by kernel_rfl) (fun _ _ _ h => h) (Or.inl ⟨by rfl, fun W' hW => ?_⟩) hS ?_
  · go_simp
  (try simp only [Act.put, List.setIfInBounds_toArray, List.set_cons_zero, List.set_cons_succ])
  refine wpAnyH_take (i := 4) (oi := { dst := (some 19), op := (Op.move (Operand.tmp 0)), type := 88, pos := "handle.go:54", after := #[], guard := none }) (v := .iface 56 (.pointer (some ⟨g.a, 0, none⟩))) rfl (by kernel_rfl) (by kernel_rfl) (by kernel_rfl) (fun _ _ _ h => h) (Or.inl ⟨by rfl, fun W' hW => ?_⟩) hS ?_
  · go_simp
  (try simp only [Act.put, List.setIfInBounds_toArray, List.set_cons_zero, List.set_cons_succ])
  refine wpAnyH_ready (rs := [5]) (by kernel_rfl) (by simp) ?_
  refine AllReadyH.cons (o := { dst := (some 20), op := (Op.call { callee := (Callee.value (Operand.func 29)), args := #[(Operand.tmp 19)], argTypes := #[88] }), type := 72, pos := "handle.go:54", after := #[{ on := 4, ground := Ground.data }], guard := none }) rfl (fun K hK => ?_) AllReadyH.nil
  go_simp
  refine HC.out.mono ?_
  rintro e w1 ⟨rfl, vn, vc, N, ha, hs⟩
  have A1 := Lib.hid ha; have S1 := Lib.hid hs
  have T1 := Lib.hid (HT0.out.step HA0.out hs)
  have HUX := run_update 90 3 72 Tryz.underlying90 Tryz.underlying3 w1 _ _ T1.out.tries 0 (valTrie cc.1)
  obtain ⟨W2, hu, hm, hk, hsz⟩ := HUX
  have M2 := Lib.hid hm; have K2 := Lib.hid hk; have Z2 := Lib.hid hsz
  unfold valTrie at hu
  clear ha hs hm hk hsz
  refine hK.out _ _ ⟨T1.out.c3, trivial⟩ (fun hS => ?_)
  clear hK K
  (try simp only [Act.put, List.setIfInBounds_toArray, List.set_cons_zero, List.set_cons_succ])
  refine wpAnyH_ready (rs := [6]) (by kernel_rfl) (by simp) ?_
  refine AllReadyH.cons (o := { dst := none, op := (Op.mapUpdate 90 (Operand.tmp 18) (Operand.const (Value.int IntKind.i64 0)) (Operand.tmp 20)), type := 0, pos := "handle.go:54", after := #[{ on := 3, ground := Ground.data }, { on := 5, ground := Ground.data }, { on := 5, ground := Ground.chain }, { on := 0, ground := Ground.phase }, { on := 1, ground := Ground.phase }, { on := 2, ground := Ground.phase }, { on := 3, ground := Ground.phase }, { on := 4, ground := Ground.phase }, { on := 5, ground := Ground.phase }], guard := none }) rfl (fun K hK => ?_) AllReadyH.nil
  go_simp
  refine hK.out _ _ ⟨(T1.out.upd2 K2.out M2.out).c3, trivial⟩ (fun hS => ?_)
  clear hK K
  (try simp only [Act.put, List.setIfInBounds_toArray, List.set_cons_zero, List.set_cons_succ])
  refine wpAnyH_done (by kernel_rfl) ?_ _
  go_wp2_with fail
  go_ret
  refine ⟨rfl, vn, vc, N, ?_, ?_, ?_⟩
  · exact A1.out.other K2.out T1.out.inN.2.2.1 T1.out.out.2.2.1
  · exact T1.out.upd2 K2.out M2.out
  · have s1 := S1.out
    refine ⟨rfl, ?_, fun k hk => ?_, fun k hk => s1.old k (.inl hk), fun k hk => ?_⟩
    · exact ((Keep.below HB.out g.Foot).trans (G := g.Foot) ⟨s1.keep.os, s1.keep.tape, s1.keep.output, s1.keep.size, s1.keep.block⟩ (fun k h1 => .inl h1)).trans K2.out (fun k e => .inr (by omega))
    · rcases s1.new k hk with (h2 | h2) | h2
      · exact .inl h2
      · exact .inr h2.1
      · exact .inr (Nat.le_trans HB.out.size h2)
    · rcases s1.foot k hk with h2 | h2
      · exact .inl h2
      · exact .inr (Nat.le_trans HB.out.size h2)
end Go.Proofs.YtifehcegnofpkaaGreatDoor
