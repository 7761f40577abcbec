/- The plain model of the machine that runs scripts: operations, threads, events; how they lie in memory. The walks of the small functions of package sched: done, Busy, Counts, History; task.Next; arena.Counts. More walks of package sched: Busy of a thread that does nothing, Counts, History. The walks of slices.Clone at lists of operations and of events; History. What a machine's memory comes to behind each of its own changes. What a pick does, plainly; Begin and Finish of the operations that are known here. What the walk of Pick wants: joins of a region's orders; what holds between its statements. -/
import Derived.Test.YtifehcegnofpkaaGreatDoorFresh
import Derived.Test.YtifehcegnofpkaaGreatDoorZero
import Derived.Laws.OwnMore
import Derived.RegionTactic
import Derived.Maps.AppendAt
import Derived.Deep.AppendLies
import Derived.Deep.QuietTactic
namespace Go.Ct
structure Op where
  kind : Int := 0
  handle : Int := 0
  key : ByteArray := .empty
  value : Nat := 0
  expect : Nat := 0
  deriving DecidableEq

structure Event where
  thread : Int := 0
  index : Int := 0
  ret : Bool := false
  result : Result := {}
  deriving DecidableEq

structure Th where
  ops : List Op := []
  index : Nat := 0
  present : Option Code := none

/-- What a machine holds beside its arena and its table. -/
structure Mach where
  st : St := {}
  tab : Tab := {}
  threads : List Th := []
  history : List Event := []
  count : Nat := 0

def Th.done (t : Th) : Bool := decide (t.ops.length ≤ t.index)

end Go.Ct
namespace Go.Proofs.YtifehcegnofpkaaGreatDoor
open Go.RowKit

def opC (o : Ct.Op) : List Value := [.int .i64 o.kind, .int .i64 o.handle, .string o.key, .int .u64 (o.value : Nat), .int .u64 (o.expect : Nat)]
def evC (e : Ct.Event) : List Value := [.int .i64 e.thread, .int .i64 e.index, .bool e.ret] ++ resCells e.result
def thC (ov : Value) (tb : Nat) (t : Ct.Th) : List Value := [ov, .int .i64 (t.index : Nat), .pointer (if t.present.isSome then some ⟨tb, 0, none⟩ else none)]
theorem opC_len (o : Ct.Op) : (opC o).length = 5 := rfl
theorem evC_len (e : Ct.Event) : (evC e).length = 11 := rfl
theorem thC_len (ov : Value) (tb : Nat) (t : Ct.Th) : (thC ov tb t).length = 3 := rfl

/-! ### rows of rows -/
theorem flat_len {α : Type} (c : Nat) : ∀ (rows : List (List α)), (∀ r ∈ rows, r.length = c) → rows.flatten.length = rows.length * c
  | [], _ => by simp
  | r :: l, h => by simp [flat_len c l (fun x hx => h x (by simp [hx])), h r (by simp), Nat.add_mul, Nat.add_comm]
theorem flat_get {α : Type} (c : Nat) : ∀ (rows : List (List α)) (i k : Nat), (∀ r ∈ rows, r.length = c) → k < c → rows.flatten[c * i + k]? = (rows[i]?).bind (·[k]?)
  | [], i, k, _, _ => by simp
  | r :: l, 0, k, h, hk => by
    have hr := h r (by simp)
    simp only [List.flatten_cons, Nat.mul_zero, Nat.zero_add]
    rw [List.getElem?_append_left (by omega)]; simp
  | r :: l, i + 1, k, h, hk => by
    have hr := h r (by simp)
    simp only [List.flatten_cons]
    rw [List.getElem?_append_right (by rw [hr, Nat.mul_add]; omega), hr, show c * (i + 1) + k - c = c * i + k by rw [Nat.mul_add]; omega, flat_get c l i k (fun x hx => h x (by simp [hx])) hk]
    simp
theorem flat_set {α : Type} (c : Nat) (rows : List (List α)) (i k : Nat) (v : α) (h : ∀ r ∈ rows, r.length = c) (hk : k < c) (row : List α) (hr : rows[i]? = some row) : rows.flatten.set (c * i + k) v = (rows.set i (row.set k v)).flatten := by
  have hi : i < rows.length := (List.getElem?_eq_some_iff.1 hr).1
  have hm : row ∈ rows := List.mem_of_getElem? hr
  have hc : 0 < c := by omega
  have h' : ∀ r ∈ rows.set i (row.set k v), r.length = c := fun r hr' => by
    rcases List.mem_or_eq_of_mem_set hr' with h1 | h1
    · exact h r h1
    · rw [h1, List.length_set]; exact h row hm
  apply List.ext_getElem?
  intro j
  obtain ⟨q, r, hr1, rfl⟩ : ∃ q r, r < c ∧ j = c * q + r := ⟨j / c, j % c, Nat.mod_lt _ hc, by rw [Nat.div_add_mod]⟩
  rw [List.getElem?_set, flat_get c _ q r h' hr1, flat_get c _ q r h hr1, List.getElem?_set]
  by_cases hq : i = q
  · subst hq
    by_cases hkr : k = r
    · subst hkr
      simp [hi, flat_len c rows h]
      have : k < row.length := by rw [h row hm]; exact hk
      rw [if_pos]
      · simp [this]
      · calc c * i + k < c * i + c := by omega
          _ = (i + 1) * c := by rw [Nat.add_mul, Nat.mul_comm]; simp
          _ ≤ rows.length * c := Nat.mul_le_mul_right _ hi
    · have : c * i + k ≠ c * i + r := by omega
      have hr' : rows[i] = row := by rw [List.getElem?_eq_getElem hi] at hr; injection hr
      simp [hi, hkr, hr']
  · have : c * i + k ≠ c * q + r := by
      intro e
      have e1 : (c * i + k) / c = i := by rw [Nat.mul_add_div hc, Nat.div_eq_of_lt hk, Nat.add_zero]
      have e2 : (c * q + r) / c = q := by rw [Nat.mul_add_div hc, Nat.div_eq_of_lt hr1, Nat.add_zero]
      rw [e, e2] at e1; exact hq e1.symm
    simp [this, hq]

/-! ### slices in memory that does not change -/
def RowAt (N : Nat → Prop) (w : World) (v : Value) (n : Nat) (xs : List Value) : Prop :=
  (v = .slice none 0 0 ∧ n = 0 ∧ xs = []) ∨
  ∃ b off cap, v = .slice (some ⟨b, off, none⟩) n cap ∧ ¬ N b ∧ b < w.heap.size ∧ n ≤ cap ∧ cap ≤ maxLen ∧ ∀ j x, xs[j]? = some x → w.cell? ⟨b, off + j, none⟩ = some x
theorem RowAt.keep {N N' F : Nat → Prop} {w w' : World} {v : Value} {n : Nat} {xs : List Value} (h : RowAt N w v n xs) (hk : Keep F w w') (hF : ∀ k, F k → N k ∨ w.heap.size ≤ k) (hN : ∀ k, N' k → N k ∨ w.heap.size ≤ k) : RowAt N' w' v n xs := by
  rcases h with h | ⟨b, off, cap, hv, hb, hl, hc, hm, hcell⟩
  · exact .inl h
  · refine .inr ⟨b, off, cap, hv, fun hn => ?_, Nat.lt_of_lt_of_le hl hk.size, hc, hm, fun j x hj => ?_⟩
    · rcases hN b hn with h1 | h1
      · exact hb h1
      · omega
    · exact hk.cell (hcell j x hj) (fun hf => by rcases hF b hf with h1 | h1; exact hb h1; exact absurd hl (by omega))
theorem RowAt.mv {g g' : Ghost} {w w' : World} {v : Value} {n : Nat} {xs : List Value} (h : RowAt g.N w v n xs) (m : Mv g w g' w') : RowAt g'.N w' v n xs := by
  obtain ⟨⟨F, hk, hF⟩, hn⟩ := m; exact h.keep hk hF hn
theorem RowAt.below {N : Nat → Prop} {w w' : World} {v : Value} {n : Nat} {xs : List Value} (h : RowAt N w v n xs) (hb : Below w.heap.size w w') : RowAt N w' v n xs :=
  h.keep (Keep.below hb (fun _ => False)) (fun _ h => h.elim) (fun _ h => .inl h)
/-- A row that was made is one, for whoever does not count its block among those that change. -/
theorem RowAt.of_owns {N : Nat → Prop} {w : World} {base : Nat} {e : TypeId} {size : Nat} {v : Value} {n : Nat} {xs : List Value} (h : w.ownsRow base e size v n xs) (hN : ∀ k, v.ownBlock = some k → ¬ N k) : RowAt N w v n xs := by
  have h' := h
  rcases h.2 with ⟨rfl, rfl⟩ | ⟨g, cap, cur, rfl, hb, hg, hc, hm, hs, ht⟩
  · have : xs = [] := by have := h.1; simp at this; exact this
    exact .inl ⟨rfl, rfl, this⟩
  · refine .inr ⟨g, 0, cap, rfl, hN g rfl, (Array.getElem?_eq_some_iff.1 hg).1, hc, hm, fun j x hj => ?_⟩
    have hlt := (List.getElem?_eq_some_iff.1 hj).1
    rw [Nat.zero_add, h'.cellAt j (by rw [← h.1]; exact hlt)]; exact hj
abbrev OpsAt (N : Nat → Prop) (w : World) (v : Value) (os : List Ct.Op) : Prop := RowAt N w v os.length (os.map opC).flatten
def ThreadsAt (N : Nat → Prop) (w : World) (v : Value) (l : List (List Ct.Op)) : Prop := ∃ vs : List Value, vs.length = l.length ∧ RowAt N w v l.length vs ∧ ∀ (i : Nat) (ov : Value) (os : List Ct.Op), vs[i]? = some ov → l[i]? = some os → OpsAt N w ov os
theorem ThreadsAt.keep {N N' F : Nat → Prop} {w w' : World} {v : Value} {l : List (List Ct.Op)} (h : ThreadsAt N w v l) (hk : Keep F w w') (hF : ∀ k, F k → N k ∨ w.heap.size ≤ k) (hN : ∀ k, N' k → N k ∨ w.heap.size ≤ k) : ThreadsAt N' w' v l := by
  obtain ⟨vs, h1, h2, h3⟩ := h
  exact ⟨vs, h1, h2.keep hk hF hN, fun i ov os hi ho => (h3 i ov os hi ho).keep hk hF hN⟩
theorem ThreadsAt.below {N : Nat → Prop} {w w' : World} {v : Value} {l : List (List Ct.Op)} (h : ThreadsAt N w v l) (hb : Below w.heap.size w w') : ThreadsAt N w' v l :=
  h.keep (Keep.below hb (fun _ => False)) (fun _ h => h.elim) (fun _ h => .inl h)
abbrev PicksAt (N : Nat → Prop) (w : World) (v : Value) (pk : List Int) : Prop := RowAt N w v pk.length (pk.map (Value.int .i64))

theorem ops_len (os : List Ct.Op) : (os.map opC).flatten.length = os.length * 5 := by
  rw [flat_len 5 _ (by simp [opC_len])]; simp
theorem ops_get (os : List Ct.Op) (i k : Nat) (o : Ct.Op) (hi : os[i]? = some o) (hk : k < 5) : (os.map opC).flatten[5 * i + k]? = (opC o)[k]? := by
  rw [flat_get 5 _ i k (by simp [opC_len]) hk]; simp [hi]
theorem ops_one (os : List Ct.Op) : ∀ v ∈ (os.map opC).flatten, v.oneCell' = true := by
  intro v hv
  simp only [List.mem_flatten, List.mem_map] at hv
  obtain ⟨l, ⟨o, _, rfl⟩, hv⟩ := hv
  simp only [opC, List.mem_cons, List.not_mem_nil, or_false] at hv
  rcases hv with rfl | rfl | rfl | rfl | rfl <;> rfl
theorem evC_one (e : Ct.Event) : ∀ v ∈ evC e, v.oneCell' = true := by
  intro v hv
  simp only [evC, resCells, List.cons_append, List.nil_append, List.mem_cons, List.not_mem_nil, or_false] at hv
  rcases hv with rfl | rfl | rfl | rfl | rfl | rfl | rfl | rfl | rfl | rfl | rfl <;> rfl
theorem evs_one (es : List Ct.Event) : ∀ v ∈ (es.map evC).flatten, v.oneCell' = true := by
  intro v hv
  simp only [List.mem_flatten, List.mem_map] at hv
  obtain ⟨l, ⟨o, _, rfl⟩, hv⟩ := hv
  exact evC_one o v hv
theorem evs_len (es : List Ct.Event) : (es.map evC).flatten.length = es.length * 11 := by
  rw [flat_len 11 _ (by simp [evC_len])]; simp

/-! ### the machine -/
inductive Role where
  | mach | table | ops | tries | iters | threads | hist | picks
  | task (i : Nat)
  deriving DecidableEq

structure MFix where
  mb : Nat
  hb : Nat
  m1 : Nat
  m2 : Nat
  m3 : Nat
  mask : Nat

def thRows (ov : Nat → Value) (tb : Nat → Nat) (ths : List Ct.Th) : List (List Value) := ths.mapIdx fun i t => thC (ov i) (tb i) t
theorem thRows_len (ov : Nat → Value) (tb : Nat → Nat) (ths : List Ct.Th) : (thRows ov tb ths).length = ths.length := by simp [thRows]
theorem thRows_three (ov : Nat → Value) (tb : Nat → Nat) (ths : List Ct.Th) : ∀ r ∈ thRows ov tb ths, r.length = 3 := by
  intro r hr
  simp only [thRows, List.mem_mapIdx] at hr
  obtain ⟨i, _, rfl⟩ := hr
  rfl
theorem thRows_get (ov : Nat → Value) (tb : Nat → Nat) (ths : List Ct.Th) (i : Nat) : (thRows ov tb ths)[i]? = ths[i]?.map (thC (ov i) (tb i)) := by simp [thRows]

/-- The machine's own memory; X: the threads whose tasks are not spoken of. -/
structure Body (X : Nat → Prop) (g : Ghost) (w : World) (m : MFix) (role : Nat → Option Role) (vth vpk vhi : Value) (ov : Nat → Value) (tb : Nat → Nat) (pk : List Int) (M : Ct.Mach) : Prop where
  blk : w.heap[m.mb]? = some (.cells #[.pointer (some ⟨g.a, 0, none⟩), .pointer (some ⟨m.hb, 0, none⟩), vth, vpk, vhi, .int .i64 (M.count : Nat)] 64 (0, 0))
  ths : w.ownsRow 0 68 3 vth M.threads.length (thRows ov tb M.threads).flatten
  hist : w.ownsRow 0 76 11 vhi M.history.length (M.history.map evC).flatten
  picks : w.ownsRow 0 69 1 vpk pk.length (pk.map (Value.int .i8))
  ops : ∀ i t, M.threads[i]? = some t → OpsAt g.N w (ov i) t.ops
  task : ∀ i t c, ¬ X i → M.threads[i]? = some t → t.present = some c → (∃ n, TaskAt g w (tb i) c n ∧ n ≤ M.count) ∧ role (tb i) = some (.task i)
  rmb : role m.mb = some .mach
  rhb : role m.hb = some .table
  rm1 : role m.m1 = some .ops
  rm2 : role m.m2 = some .tries
  rm3 : role m.m3 = some .iters
  rth : ∀ k, vth.ownBlock = some k → role k = some .threads
  rhi : ∀ k, vhi.ownBlock = some k → role k = some .hist
  rpk : ∀ k, vpk.ownBlock = some k → role k = some .picks
  rN : ∀ k r, role k = some r → g.N k ∧ ¬ g.Foot k ∧ k < w.heap.size

/-- Blocks that are not the machine's own. -/
def Other (X : Nat → Prop) (g : Ghost) (role : Nat → Option Role) (k : Nat) : Prop := g.Foot k ∨ role k = some .ops ∨ role k = some .tries ∨ role k = some .iters ∨ ∃ i, X i ∧ role k = some (.task i)

theorem Body.keep {X F : Nat → Prop} {g g' : Ghost} {w w' : World} {m : MFix} {role : Nat → Option Role} {vth vpk vhi : Value} {ov : Nat → Value} {tb : Nat → Nat} {pk : List Int} {M : Ct.Mach} {s' : Ct.St} {T' : Ct.Tab}
    (h : Body X g w m role vth vpk vhi ov tb pk M) (hfN : ∀ k, F k → g.Foot k → g.N k) (hk : Keep F w w') (hF : ∀ k, F k → Other X g role k ∨ w.heap.size ≤ k) (ea : g'.a = g.a) (new : ∀ k, g'.N k → g.N k ∨ w.heap.size ≤ k) (old : ∀ k, g.N k → g'.N k) (foot : ∀ k, g'.Foot k → g.Foot k ∨ w.heap.size ≤ k) :
    Body X g' w' m role vth vpk vhi ov tb pk { M with st := s', tab := T' } := by
  have hN : ∀ k, F k → g.N k ∨ w.heap.size ≤ k := fun k hf => by
    rcases hF k hf with (h1 | h1 | h1 | h1 | ⟨i, _, h1⟩) | h1
    · exact .inl (hfN k hf h1)
    · exact .inl (h.rN k _ h1).1
    · exact .inl (h.rN k _ h1).1
    · exact .inl (h.rN k _ h1).1
    · exact .inl (h.rN k _ h1).1
    · exact .inr h1
  have ne : ∀ k r, role k = some r → r ≠ .ops → r ≠ .tries → r ≠ .iters → (∀ i, X i → r ≠ .task i) → ¬ F k := fun k r hr n1 n2 n3 n4 hf => by
    have hh := h.rN k r hr
    rcases hF k hf with (h1 | h1 | h1 | h1 | ⟨i, hi, h1⟩) | h1
    · exact hh.2.1 h1
    · rw [hr] at h1; injection h1 with h1; exact n1 h1
    · rw [hr] at h1; injection h1 with h1; exact n2 h1
    · rw [hr] at h1; injection h1 with h1; exact n3 h1
    · rw [hr] at h1; injection h1 with h1; exact n4 i hi h1
    · have := hh.2.2; omega
  refine ⟨?_, ?_, ?_, ?_, fun i t ht => (h.ops i t ht).keep hk hN new, fun i t c hx ht hc => ?_, h.rmb, h.rhb, h.rm1, h.rm2, h.rm3, h.rth, h.rhi, h.rpk, fun k r hr => ?_⟩
  · rw [hk.block _ (h.rN _ _ h.rmb).2.2 (ne _ _ h.rmb (by decide) (by decide) (by decide) (fun _ _ e => by cases e)), ea]; exact h.blk
  · exact ownsRow_keep h.ths hk (fun k hv => ne k _ (h.rth k hv) (by decide) (by decide) (by decide) (fun _ _ e => by cases e))
  · exact ownsRow_keep h.hist hk (fun k hv => ne k _ (h.rhi k hv) (by decide) (by decide) (by decide) (fun _ _ e => by cases e))
  · exact ownsRow_keep h.picks hk (fun k hv => ne k _ (h.rpk k hv) (by decide) (by decide) (by decide) (fun _ _ e => by cases e))
  · obtain ⟨⟨n, h1, h2⟩, h3⟩ := h.task i t c hx ht hc
    refine ⟨⟨n, h1.mv hk (ne _ _ h3 (fun e => by cases e) (fun e => by cases e) (fun e => by cases e) (fun j hj e => by injection e with e; exact hx (e ▸ hj))) hN ea new old foot, h2⟩, h3⟩
  · have := h.rN k r hr
    refine ⟨old k this.1, fun hf => (foot k hf).elim this.2.1 (fun h1 => by omega), Nat.lt_of_lt_of_le this.2.2 hk.size⟩
theorem Body.below {X : Nat → Prop} {g : Ghost} {w w' : World} {m : MFix} {role : Nat → Option Role} {vth vpk vhi : Value} {ov : Nat → Value} {tb : Nat → Nat} {pk : List Int} {M : Ct.Mach} (h : Body X g w m role vth vpk vhi ov tb pk M) (hb : Below w.heap.size w w') : Body X g w' m role vth vpk vhi ov tb pk M :=
  h.keep (F := fun _ => False) (s' := M.st) (T' := M.tab) (fun _ h => h.elim) (Keep.below hb _) (fun _ h => h.elim) rfl (fun _ h => .inl h) (fun _ h => h) (fun _ h => .inl h)
theorem Below.keep {B : Nat} {w W W' : World} (h : Below B w W) (hB : B ≤ w.heap.size) (hk : Keep (fun k => B ≤ k) W W') : Below B w W' :=
  ⟨hk.os.trans h.os, hk.tape.trans h.tape, hk.output.trans h.output, Nat.le_trans h.size hk.size, fun k hl => (hk.block k (by have := h.size; omega) (by omega)).trans (h.block k hl)⟩
theorem Below.weak {B B' : Nat} {w W : World} (h : Below B w W) (hB : B' ≤ B) : Below B' w W := ⟨h.os, h.tape, h.output, h.size, fun k hk => h.block k (by omega)⟩
theorem cell_below {w w' : World} {a : Addr} {v : Value} (h : w.cell? a = some v) (hb : Below w.heap.size w w') : w'.cell? a = some v :=
  (World.cell?_of_block (hb.block a.block (World.block_lt_of_cell? _ _ h))).trans h
theorem cell_alloc {w : World} {a : Addr} {v : Value} (h : w.cell? a = some v) : ∀ o, (w.alloc o).cell? a = some v := fun o => cell_below h ((Below.refl _ _).alloc (Nat.le_refl _) o)
end Go.Proofs.YtifehcegnofpkaaGreatDoor

namespace Go.Proofs.YtifehcegnofpkaaGreatDoor
open Go.RowKit
set_option linter.unusedVariables false

set_option maxRecDepth 100000 in
theorem thDone_any (w : World) (b off ix len cap : Nat) (p : Option Addr) (h0 : w.cell? ⟨b, off, none⟩ = some (.slice p len cap)) (h1 : w.cell? ⟨b, off + 1, none⟩ = some (.int .i64 (ix : Nat))) :
    Calls Tryz.prog 23 #[.pointer (some ⟨b, off, none⟩)] w fun e w' => e = .returned (.bool (decide (len ≤ ix))) ∧ Below w.heap.size w w' := by
  go_enter Tryz.func23, Tryz.ntmps23
  go_wp2_with fail
  go_region
  all_goals
    go_wp2_with fail
    go_ret
    exact ⟨rfl, (Below.refl _ _).drew⟩

/-- The cells of a code's access. -/
def accC : Ct.Code → List Value
  | .done _ => [.int .i64 0, .int .i64 0, .int .i64 0, .int .i64 0]
  | .load c _ => [.int .i64 1, .int .i64 c, .int .i64 0, .int .i64 0]
  | .cas c o n _ => [.int .i64 2, .int .i64 c, .int .i64 o, .int .i64 n]
theorem accC_len (c : Ct.Code) : (accC c).length = 4 := by cases c <;> rfl
theorem accC_one (c : Ct.Code) : (accC c).toArray.all (·.oneCell') = true := by cases c <;> simp [accC, Value.oneCell']
theorem CodeRep.acc {sv : Value} {N : Nat → Prop} {w : World} {cs : List Value} {c : Ct.Code} (h : CodeRep sv N w cs c) : cs.take 4 = accC c := by
  cases c with
  | done r => rw [h]; rfl
  | load c k => obtain ⟨f, e, _⟩ := h; rw [e]; rfl
  | cas c o x k => obtain ⟨f, e, _⟩ := h; rw [e]; rfl
theorem info_Access_size : (Tryz.prog.info? 48).map (·.size) = some 4 := by kernel_rfl
def zeroAcc : Array Value := #[.int .i64 0, .int .i64 0, .int .i64 0, .int .i64 0]
theorem zeroAcc_one : zeroAcc.all (·.oneCell') = true := by simp [zeroAcc, Value.oneCell']
theorem TaskBlk.acc {w : World} {tb : Nat} {sv : Value} {cs : List Value} {n : Nat} {busy : Bool} (h : TaskBlk w tb sv cs n busy) : w.rangeAt tb 1 (cs.take 4) := fun j v hv => by
  have hj := (List.getElem?_eq_some_iff.1 hv).1
  simp only [List.length_take] at hj
  rw [h.code j (by omega), ← hv, List.getElem?_take_of_lt (by omega)]
theorem results_row_tmp {P : Program} {fn : Func} {p u : Tmp} {ty : TypeId} (h : fn.results = #[.cell p ty, .tmp u]) (tmps : Array Value) (w : World) (g : Nat) (t : TypeId) (cs : Array Value) (fr : Nat × Nat) (d : TypeDesc)
    (hp : tmps.getD p undef = .pointer (some ⟨g, 0, none⟩)) (hg : w.heap[g]? = some (.cells cs t fr))
    (hu : P.underlying ty = some d) (hd : (match d with | .struct _ | .array _ _ => true | _ => false) = true) (hi : (P.info? ty).map (·.size) = some cs.size) :
    (results fn tmps).run P w = .ok (.tuple #[.agg cs, tmps.getD u undef]) w := by
  have hp' : tmps[p]?.getD undef = .pointer (some ⟨g, 0, none⟩) := by simpa using hp
  simp [results, h, hp', asAddr, run_loadVar_row w g t ty cs fr d hg hu hd hi, Result.andThen]
theorem results_tmp_row_tmp {P : Program} {fn : Func} {x p u : Tmp} {ty : TypeId} (h : fn.results = #[.tmp x, .cell p ty, .tmp u]) (tmps : Array Value) (w : World) (g : Nat) (t : TypeId) (cs : Array Value) (fr : Nat × Nat) (d : TypeDesc)
    (hp : tmps.getD p undef = .pointer (some ⟨g, 0, none⟩)) (hg : w.heap[g]? = some (.cells cs t fr))
    (hu : P.underlying ty = some d) (hd : (match d with | .struct _ | .array _ _ => true | _ => false) = true) (hi : (P.info? ty).map (·.size) = some cs.size) :
    (results fn tmps).run P w = .ok (.tuple #[tmps.getD x undef, .agg cs, tmps.getD u undef]) w := by
  have hp' : tmps[p]?.getD undef = .pointer (some ⟨g, 0, none⟩) := by simpa using hp
  simp [results, h, hp', asAddr, run_loadVar_row w g t ty cs fr d hg hu hd hi, Result.andThen]

set_option maxRecDepth 100000 in
set_option maxHeartbeats 800000 in
theorem taskNext_any (w : World) (tb : Nat) (g : Ghost) (c : Ct.Code) (n : Nat) (h : TaskAt g w tb c n) :
    Calls Tryz.prog 22 #[.pointer (some ⟨tb, 0, none⟩)] w fun e w' => e = .returned (.tuple #[.agg (accC c).toArray, .bool (!Code.isDone c)]) ∧ Below w.heap.size w w' := by
  obtain ⟨⟨cs, hT, hC⟩, _, _⟩ := h
  have hT' : TaskBlk (w.alloc (.cells zeroAcc 48)) tb g.sv cs n false := ⟨heap_alloc_of hT.at_ _, hT.len⟩
  have hdn := done_any (w.alloc (.cells zeroAcc 48)) tb g cs n false c hT' (hC.keep (Keep.alloc (fun _ => False) _ _) (fun _ h => h.elim) (fun _ h => .inl h))
  have HD := Lib.hid hdn
  have hrg := hT'.acc
  rw [hC.acc] at hrg
  have HRG := Lib.hid hrg
  have HA := Lib.hid (heap_alloc_at w (.cells zeroAcc 48))
  have HB := Lib.hid (below_result w zeroAcc (accC c).toArray 48)
  have HL : Hid ((Tryz.prog.info? 48).map (·.size) = some (accC c).length) := by rw [accC_len]; exact info_Access_size
  have HL' : Hid ((Tryz.prog.info? 48).map (·.size) = some (accC c).toArray.size) := by rw [List.size_toArray, accC_len]; exact info_Access_size
  have HS : Hid (zeroAcc.size = (accC c).toArray.size) := by show zeroAcc.size = _; simp [accC_len, zeroAcc]
  clear hT hC hdn hT' hrg
  cases hd : Code.isDone c with
  | true =>
    have ec : accC c = [.int .i64 0, .int .i64 0, .int .i64 0, .int .i64 0] := by cases c <;> first | rfl | cases hd
    rw [hd] at HD
    clear HRG
    go_enter Tryz.func22, Tryz.ntmps22
    go_wp2_with (first
      | (go_at_call 26; refine HD.out.mono ?_; rintro e w' ⟨rfl, rfl⟩)
      | (refine wpList_store_row rfl 48 (.tmp 2) (.tmp 6) rfl w.heap.size zeroAcc rfl rfl 48 zeroAcc HA.out info_Access_size rfl zeroAcc_one ?_))
    refine bodyPost_ret (v := .tuple #[.agg zeroAcc, .bool false]) (results_row_tmp Tryz.results22 _ _ w.heap.size 48 zeroAcc (0, 0) _ rfl (setRow_heap _ w.heap.size _ _ _ _ HA.out) Tryz.underlying48 rfl info_Access_size) rfl ?_
    rw [ec]
    exact ⟨rfl, by have := HB.out; rw [ec] at this; exact this⟩
  | false =>
    rw [hd] at HD
    go_enter Tryz.func22, Tryz.ntmps22
    go_wp2_with (first
      | (go_at_call 26; refine HD.out.mono ?_; rintro e w' ⟨rfl, rfl⟩)
      | (refine wpList_load_mid rfl 48 (.tmp 10) rfl tb 1 rfl (accC c) _ HRG.out Tryz.underlying48 rfl HL.out ?_)
      | (refine wpList_store_row rfl 48 (.tmp 2) (.tmp 11) rfl w.heap.size (accC c).toArray rfl rfl 48 zeroAcc HA.out HL'.out HS.out (accC_one c) ?_))
    refine bodyPost_ret (v := .tuple #[.agg (accC c).toArray, .bool true]) (results_row_tmp Tryz.results22 _ _ w.heap.size 48 _ (0, 0) _ rfl (setRow_heap _ w.heap.size _ _ _ _ HA.out) Tryz.underlying48 rfl HL'.out) rfl ?_
    exact ⟨rfl, HB.out⟩

/-! ### facts on a machine's cells -/
theorem Body.cell {X : Nat → Prop} {g : Ghost} {w : World} {m : MFix} {role : Nat → Option Role} {vth vpk vhi : Value} {ov : Nat → Value} {tb : Nat → Nat} {pk : List Int} {M : Ct.Mach} (h : Body X g w m role vth vpk vhi ov tb pk M) (i : Nat) : w.cell? ⟨m.mb, i, none⟩ = (#[.pointer (some ⟨g.a, 0, none⟩), .pointer (some ⟨m.hb, 0, none⟩), vth, vpk, vhi, .int .i64 (M.count : Nat)] : Array Value)[i]? := cell_at h.blk i
theorem Body.free {X : Nat → Prop} {g : Ghost} {w : World} {m : MFix} {role : Nat → Option Role} {vth vpk vhi : Value} {ov : Nat → Value} {tb : Nat → Nat} {pk : List Int} {M : Ct.Mach} (h : Body X g w m role vth vpk vhi ov tb pk M) (i : Nat) : w.frozen? ⟨m.mb, i, none⟩ = false := free_at h.blk i
theorem Body.len {X : Nat → Prop} {g : Ghost} {w : World} {m : MFix} {role : Nat → Option Role} {vth vpk vhi : Value} {ov : Nat → Value} {tb : Nat → Nat} {pk : List Int} {M : Ct.Mach} (h : Body X g w m role vth vpk vhi ov tb pk M) : ∃ p cap, vth = .slice p M.threads.length cap := by
  rcases h.ths.2 with ⟨e, e2⟩ | ⟨g, cap, cur, e, _⟩
  · exact ⟨none, 0, by rw [e, e2]⟩
  · exact ⟨_, _, e⟩
/-- The cells of a thread. -/
theorem Body.thread {X : Nat → Prop} {g : Ghost} {w : World} {m : MFix} {role : Nat → Option Role} {vth vpk vhi : Value} {ov : Nat → Value} {tb : Nat → Nat} {pk : List Int} {M : Ct.Mach} (h : Body X g w m role vth vpk vhi ov tb pk M) (i : Nat) (t : Ct.Th) (hi : M.threads[i]? = some t) :
    ∃ gt cap, vth = .slice (some ⟨gt, 0, none⟩) M.threads.length cap ∧ role gt = some .threads ∧ (∀ k, k < 3 → w.cell? ⟨gt, i * 3 + k, none⟩ = (thC (ov i) (tb i) t)[k]?) ∧ ∀ k, w.frozen? ⟨gt, k, none⟩ = false := by
  have hlt := (List.getElem?_eq_some_iff.1 hi).1
  have h0 := h.ths
  rcases h.ths.2 with ⟨e, e2⟩ | ⟨gt, cap, cur, e, _⟩
  · omega
  · subst e
    refine ⟨gt, cap, rfl, h.rth gt rfl, fun k hk => ?_, fun k => h0.frozenAt k⟩
    rw [h0.cellAt (i * 3 + k) (by omega), Nat.mul_comm i 3, flat_get 3 _ i k (thRows_three ov tb _) hk, thRows_get, hi]; rfl

/-! ### Busy -/
set_option maxRecDepth 100000 in
set_option maxHeartbeats 800000 in
theorem busy_some (g : Ghost) (w : World) (m : MFix) (role : Nat → Option Role) (vth vpk vhi : Value) (ov : Nat → Value) (tb : Nat → Nat) (pk : List Int) (M : Ct.Mach) (i : Nat) (t : Ct.Th) (c : Ct.Code) (h : Body (fun _ => False) g w m role vth vpk vhi ov tb pk M) (hi : M.threads[i]? = some t) (hc : t.present = some c) :
    Calls Tryz.prog 13 #[.pointer (some ⟨m.mb, 0, none⟩), .int .i64 (i : Nat)] w fun e w' => e = .returned (.tuple #[.int .i64 (t.index : Nat), .agg (accC c).toArray, .bool true]) ∧ Below w.heap.size w w' := by
  obtain ⟨gt, cap, rfl, hr, hcell, hfree⟩ := h.thread i t hi
  have hlt := (List.getElem?_eq_some_iff.1 hi).1
  obtain ⟨⟨n, hT, _⟩, _⟩ := h.task i t c (fun h => h) hi hc
  have c2 := h.cell 2
  have t0 := hcell 0 (by decide); have t1 := hcell 1 (by decide); have t2 := hcell 2 (by decide)
  simp only [thC, hc, List.getElem?_cons_zero, List.getElem?_cons_succ, Option.isSome_some, if_true] at c2 t0 t1 t2
  simp at c2
  have q1 : ¬ ((i : Int) < 0) := by omega
  have q2 : (i : Int) < (M.threads.length : Int) := by omega
  have q3 : i < M.threads.length := hlt
  have q4 : decide (M.threads.length ≤ i) = false := by simp; omega
  generalize M.threads.length = len at *
  simp only [Nat.add_zero] at t0
  have p2 := cell_alloc c2; have r0 := cell_alloc t0; have r1 := cell_alloc t1; have r2 := cell_alloc t2
  have Q4 := Lib.hid (World.block_lt_of_cell? _ _ c2); have Q5 := Lib.hid (World.block_lt_of_cell? _ _ t1)
  have HT := Lib.hid hT
  clear h hcell hfree hT hlt hi hc hr c2 t0 t1 t2
  go_enter Tryz.func13, Tryz.ntmps13
  go_wp2_with fail
  refine (taskNext_any _ (tb i) g c n (HT.out.below ((Below.refl _ _).alloc (Nat.le_refl _) _))).mono ?_
  rintro e w1 ⟨rfl, hb1⟩
  obtain ⟨a0, a1, a2, a3, ea⟩ : ∃ a0 a1 a2 a3 : Int, accC c = [.int .i64 a0, .int .i64 a1, .int .i64 a2, .int .i64 a3] := by cases c <;> exact ⟨_, _, _, _, rfl⟩
  have HA := Lib.hid (seen_below (heap_alloc_at w (.cells zeroAcc 48)) hb1)
  have HB1 := Lib.hid hb1
  have p2 := cell_below (p2 _) hb1; have r1 := cell_below (r1 _) hb1
  clear hb1
  rw [ea]
  go_wp2_with (refine wpList_store_row rfl 48 (.tmp 5) (.tmp 40) rfl w.heap.size #[.int .i64 a0, .int .i64 a1, .int .i64 a2, .int .i64 a3] rfl rfl 48 zeroAcc HA.out info_Access_size rfl (by simp [Value.oneCell']) ?_)
  obtain ⟨W2, hW2⟩ : ∃ W, w1.setRow w.heap.size #[.int .i64 a0, .int .i64 a1, .int .i64 a2, .int .i64 a3] = W := ⟨_, rfl⟩
  refine code_world hW2 ?_
  have g2 : W2.heap[w.heap.size]? = some (.cells #[.int .i64 a0, .int .i64 a1, .int .i64 a2, .int .i64 a3] 48 (0, 0)) := by rw [← hW2]; exact setRow_heap _ _ _ _ _ _ HA.out
  have kb : Keep (fun k => k = w.heap.size) w1 W2 := by rw [← hW2]; exact Keep.setRow w1 _ _ rfl
  have hB2 : Below w.heap.size w W2 := Below.keep (Below.keep ((Below.refl _ _).alloc (Nat.le_refl _) _) (Nat.le_refl _) (Keep.below HB1.out (fun k => w.heap.size ≤ k))) (Nat.le_refl _) (kb.mono (fun k _ e => by omega))
  have s2 := kb.cell p2 (fun e => by have := Q4.out; simp at this e; omega); have s1 := kb.cell r1 (fun e => by have := Q5.out; simp at this e; omega)
  have d0 := cell_at g2 0; have d1 := cell_at g2 1; have d2 := cell_at g2 2; have d3 := cell_at g2 3; have fr := free_at g2
  simp only [List.getElem?_toArray, List.getElem?_cons_zero, List.getElem?_cons_succ] at d0 d1 d2 d3
  have HB2 := Lib.hid hB2; have G2 := Lib.hid g2
  clear hB2 g2 kb p2 r1 hW2
  go_region
  all_goals
    go_wp2_with fail
    have x0 := heap_setCell_at W2.drew w.heap.size 0 (.int .i64 a0) _ _ _ G2.out
    have x1 := heap_setCell_at _ w.heap.size 1 (.int .i64 a1) _ _ _ x0
    have x2 := heap_setCell_at _ w.heap.size 2 (.int .i64 a2) _ _ _ x1
    have x3 := heap_setCell_at _ w.heap.size 3 (.int .i64 a3) _ _ _ x2
    refine bodyPost_ret (v := .tuple #[.int .i64 (t.index : Nat), .agg #[.int .i64 a0, .int .i64 a1, .int .i64 a2, .int .i64 a3], .bool true]) (results_tmp_row_tmp Tryz.results13 _ _ w.heap.size 48 _ (0, 0) _ rfl x3 Tryz.underlying48 rfl info_Access_size) rfl ?_
    refine ⟨by rw [ea], ?_⟩
    exact Below.keep (Below.drew HB2.out) (Nat.le_refl _) ((((Keep.setCell (F := fun k => w.heap.size ≤ k) W2.drew ⟨w.heap.size, 0, none⟩ _ (Nat.le_refl _)).trans (Keep.setCell (F := fun k => w.heap.size ≤ k) _ ⟨w.heap.size, 1, none⟩ _ (Nat.le_refl _)) (fun _ h => .inl h)).trans (Keep.setCell (F := fun k => w.heap.size ≤ k) _ ⟨w.heap.size, 2, none⟩ _ (Nat.le_refl _)) (fun _ h => .inl h)).trans (Keep.setCell (F := fun k => w.heap.size ≤ k) _ ⟨w.heap.size, 3, none⟩ _ (Nat.le_refl _)) (fun _ h => .inl h))
end Go.Proofs.YtifehcegnofpkaaGreatDoor

namespace Go.Proofs.YtifehcegnofpkaaGreatDoor
open Go.RowKit
set_option linter.unusedVariables false

/-- A thread's number that is none, or of a thread without an operation in progress. -/
def Idle (M : Ct.Mach) (th : Int) : Prop := th < 0 ∨ (M.threads.length : Int) ≤ th ∨ ∃ (i : Nat) (t : Ct.Th), th = (i : Nat) ∧ M.threads[i]? = some t ∧ t.present = none

set_option maxRecDepth 100000 in
set_option maxHeartbeats 800000 in
theorem busy_idle (g : Ghost) (w : World) (m : MFix) (role : Nat → Option Role) (vth vpk vhi : Value) (ov : Nat → Value) (tb : Nat → Nat) (pk : List Int) (M : Ct.Mach) (th : Int) (h : Body (fun _ => False) g w m role vth vpk vhi ov tb pk M) (hi : Idle M th) :
    Calls Tryz.prog 13 #[.pointer (some ⟨m.mb, 0, none⟩), .int .i64 th] w fun e w' => e = .returned (.tuple #[.int .i64 0, .agg zeroAcc, .bool false]) ∧ Below w.heap.size w w' := by
  obtain ⟨p, cap, ev⟩ := h.len
  have c2 := h.cell 2
  simp at c2
  have HA := Lib.hid (heap_alloc_at w (.cells zeroAcc 48))
  have HB := Lib.hid (below_result w zeroAcc zeroAcc 48)
  rcases hi with hi | hi | ⟨i, t, rfl, hi, hc⟩
  · clear c2
    go_enter Tryz.func13, Tryz.ntmps13
    go_wp2_with (refine wpList_store_row rfl 48 (.tmp 5) (.tmp 29) rfl w.heap.size zeroAcc rfl rfl 48 zeroAcc HA.out info_Access_size rfl zeroAcc_one ?_)
    refine bodyPost_ret (v := .tuple #[.int .i64 0, .agg zeroAcc, .bool false]) (results_tmp_row_tmp Tryz.results13 _ _ w.heap.size 48 zeroAcc (0, 0) _ rfl (setRow_heap _ w.heap.size _ _ _ _ HA.out) Tryz.underlying48 rfl info_Access_size) rfl ?_
    exact ⟨rfl, HB.out⟩
  · subst ev
    have q1 : ¬ th < 0 := by omega
    have p2 := cell_alloc c2
    generalize M.threads.length = len at *
    clear c2 h
    go_enter Tryz.func13, Tryz.ntmps13
    go_wp2_with (refine wpList_store_row rfl 48 (.tmp 5) (.tmp 29) rfl w.heap.size zeroAcc rfl rfl 48 zeroAcc HA.out info_Access_size rfl zeroAcc_one ?_)
    refine bodyPost_ret (v := .tuple #[.int .i64 0, .agg zeroAcc, .bool false]) (results_tmp_row_tmp Tryz.results13 _ _ w.heap.size 48 zeroAcc (0, 0) _ rfl (setRow_heap _ w.heap.size _ _ _ _ HA.out) Tryz.underlying48 rfl info_Access_size) rfl ?_
    exact ⟨rfl, HB.out⟩
  · obtain ⟨gt, cap, rfl, hr, hcell, hfree⟩ := h.thread i t hi
    have hlt := (List.getElem?_eq_some_iff.1 hi).1
    have t2 := hcell 2 (by decide)
    simp only [thC, hc, List.getElem?_cons_zero, List.getElem?_cons_succ, Option.isSome_none] at t2
    simp at t2
    have q1 : ¬ ((i : Int) < 0) := by omega
    have q3 : i < M.threads.length := hlt
    have q4 : decide (M.threads.length ≤ i) = false := by simp; omega
    generalize M.threads.length = len at *
    have p2 := cell_alloc c2; have r2 := cell_alloc t2
    clear c2 t2 h hcell hfree hlt hi hc hr ev
    go_enter Tryz.func13, Tryz.ntmps13
    go_wp2_with (refine wpList_store_row rfl 48 (.tmp 5) (.tmp 29) rfl w.heap.size zeroAcc rfl rfl 48 zeroAcc HA.out info_Access_size rfl zeroAcc_one ?_)
    refine bodyPost_ret (v := .tuple #[.int .i64 0, .agg zeroAcc, .bool false]) (results_tmp_row_tmp Tryz.results13 _ _ w.heap.size 48 zeroAcc (0, 0) _ rfl (setRow_heap _ w.heap.size _ _ _ _ HA.out) Tryz.underlying48 rfl info_Access_size) rfl ?_
    exact ⟨rfl, HB.out⟩

/-! ### results of several values -/
theorem results_tmp2 {P : Program} {fn : Func} {x y : Tmp} (h : fn.results = #[.tmp x, .tmp y]) (tmps : Array Value) (w : World) : (results fn tmps).run P w = .ok (.tuple #[tmps.getD x undef, tmps.getD y undef]) w := by simp [results, h]
theorem results_tmp3 {P : Program} {fn : Func} {x y z : Tmp} (h : fn.results = #[.tmp x, .tmp y, .tmp z]) (tmps : Array Value) (w : World) : (results fn tmps).run P w = .ok (.tuple #[tmps.getD x undef, tmps.getD y undef, tmps.getD z undef]) w := by simp [results, h]
theorem results_tmp4 {P : Program} {fn : Func} {x y z u : Tmp} (h : fn.results = #[.tmp x, .tmp y, .tmp z, .tmp u]) (tmps : Array Value) (w : World) : (results fn tmps).run P w = .ok (.tuple #[tmps.getD x undef, tmps.getD y undef, tmps.getD z undef, tmps.getD u undef]) w := by simp [results, h]

/-! ### Counts -/
set_option maxRecDepth 100000 in
set_option maxHeartbeats 800000 in
theorem arenaCounts_any (g : Ghost) (w : World) (s : Ct.St) (h : ArenaAt g w s) (hr : s.Room') :
    Calls Tryz.prog 21 #[.pointer (some ⟨g.a, 0, none⟩)] w fun e w' => e = .returned (.tuple #[.int .i64 (s.nodes : Nat), .int .i64 (s.cells.length : Nat), .int .i64 (s.acc : Nat)]) ∧ Below w.heap.size w w' := by
  have HN := Lib.hid (fun W (hb : Below w.heap.size w W) => nodes_any' g W s (h.below hb) hr)
  have c1 := cell_at h.block 1; have c3 := cell_at h.block 3
  have HBD : Hid (∀ n, Below w.heap.size w (w.drewN n)) := fun n => ⟨rfl, rfl, rfl, Nat.le_refl _, fun _ _ => rfl⟩
  obtain ⟨p, cap, ev⟩ : ∃ p cap, g.vc = .slice p s.cells.length cap := by
    rcases h.cells.2 with ⟨e, e2⟩ | ⟨g, cap, cur, e, _⟩
    · exact ⟨none, 0, by rw [e, e2]⟩
    · exact ⟨_, _, e⟩
  rw [ev] at c1
  simp at c1 c3
  clear h
  go_enter Tryz.func21, Tryz.ntmps21
  go_wp2_with fail
  go_region_with (first
    | (go_at_call 31; refine (HN.out _ (HBD.out 1)).mono ?_; rintro e w' ⟨rfl, rfl⟩))
  all_goals
   go_wp2_with fail
   refine bodyPost_ret (results_tmp3 Tryz.results21 _ _) rfl ?_
   exact ⟨rfl, HBD.out 1⟩

set_option maxRecDepth 100000 in
set_option maxHeartbeats 800000 in
theorem counts_any (g : Ghost) (w : World) (m : MFix) (role : Nat → Option Role) (vth vpk vhi : Value) (ov : Nat → Value) (tb : Nat → Nat) (pk : List Int) (M : Ct.Mach) (X : Nat → Prop) (h : Body X g w m role vth vpk vhi ov tb pk M) (ha : ArenaAt g w M.st) (hr : M.st.Room') :
    Calls Tryz.prog 11 #[.pointer (some ⟨m.mb, 0, none⟩)] w fun e w' => e = .returned (.tuple #[.int .i64 (M.count : Nat), .int .i64 (M.st.acc : Nat), .int .i64 (M.st.nodes : Nat)]) ∧ Below w.heap.size w w' := by
  have HC := Lib.hid (arenaCounts_any g w M.st ha hr)
  have c0 := h.cell 0; have c5 := h.cell 5
  simp at c0 c5
  have hp : ∀ (a : Addr) (W : World), (binOp BinOp.eql 56 (.pointer (some a)) (.pointer none)).run Tryz.prog W = .ok (.bool false) W := fun _ _ => by kernel_rfl
  generalize M.count = cnt at *
  generalize M.st.acc = acc at *
  generalize M.st.nodes = nds at *
  generalize M.st.cells.length = cl at *
  clear h ha hr
  go_enter Tryz.func11, Tryz.ntmps11
  go_wp2_with fail
  refine HC.out.mono ?_
  rintro e w1 ⟨rfl, hb1⟩
  have c5' := cell_below c5 hb1
  have HB := Lib.hid hb1
  clear c0 c5 hb1
  go_wp2_with fail
  refine bodyPost_ret (results_tmp3 Tryz.results11 _ _) rfl ?_
  exact ⟨rfl, HB.out⟩
end Go.Proofs.YtifehcegnofpkaaGreatDoor

namespace Go.Proofs.YtifehcegnofpkaaGreatDoor
open Go.RowKit
set_option linter.unusedVariables false

def zeroOp : Array Value := #[.int .i64 0, .int .i64 0, .string ⟨#[]⟩, .int .u64 0, .int .u64 0]
def zeroEvent : Array Value := #[.int .i64 0, .int .i64 0, .bool false, .int .i64 0, .bool false, .int .u64 0, .string ⟨#[]⟩, .int .i64 0, .int .i64 0, .int .i64 0, .bool false]
theorem info_Op : (Tryz.prog.info? 53).map (fun i => (i.zero, i.size, i.bytes)) = some (some (.agg zeroOp), 5, 48) := by kernel_rfl
theorem info_Event : (Tryz.prog.info? 76).map (fun i => (i.zero, i.size, i.bytes)) = some (some (.agg zeroEvent), 11, 96) := by kernel_rfl

/-- What slices.Clone leaves: a row of the call's own. -/
def Cloned (E : TypeId) (size : Nat) (n : Nat) (xs : List Value) (w : World) (e : Ending) (w' : World) : Prop :=
  ∃ v, e = .returned v ∧ w'.ownsRow w.heap.size E size v n xs ∧ Below w.heap.size w w'

theorem own_empty (w : World) (base : Nat) (hb : base ≤ w.heap.size) (E : TypeId) (size : Nat) : (w.alloc (.cells #[] E)).ownsRow base E size (.slice (some ⟨w.heap.size, 0, none⟩) 0 0) 0 [] :=
  ⟨by simp, .inr ⟨w.heap.size, 0, #[], rfl, hb, heap_alloc_at w _, Nat.le_refl _, by unfold maxLen; omega, by simp, by simp⟩⟩

set_option maxRecDepth 100000 in
set_option maxHeartbeats 800000 in
theorem cloneOps_any (N : Nat → Prop) (w : World) (v : Value) (os : List Ct.Op) (h : OpsAt N w v os) (hl : os.length ≤ 1000000) :
    Calls Tryz.prog 19 #[v] w (Cloned 53 5 os.length (os.map opC).flatten w) := by
  obtain ⟨i0, hi, hz0, hz1, hz2⟩ := info_parts info_Op
  rcases h with ⟨rfl, h0, hx⟩ | ⟨b, off, cap, rfl, hb, hlt, hc, hm, hcell⟩
  · have hnn : ∀ (W : World), (binOp BinOp.eql 27 (.slice none 0 0) (.slice none 0 0)).run Tryz.prog W = .ok (.bool true) W := fun _ => by kernel_rfl
    go_enter Tryz.func19, Tryz.ntmps19
    go_wp2_with fail
    go_ret
    refine ⟨_, rfl, ?_, Below.refl _ _⟩
    rw [hx, h0]; exact World.ownsRow_nil _ _ _ _
  · have hnl : ∀ (a : Addr) (n c : Nat) (W : World), (binOp BinOp.eql 27 (.slice (some a) n c) (.slice none 0 0)).run Tryz.prog W = .ok (.bool false) W := fun _ _ _ _ => by kernel_rfl
    have HO := Lib.hid (own_empty w w.heap.size (Nat.le_refl _) 53 5)
    have HL : Hid ((os.map opC).flatten.length = os.length * 5) := ops_len os
    have HC : Hid (∀ j u, (os.map opC).flatten[j]? = some u → (w.alloc (.cells #[] 53)).cell? ((⟨b, off, none⟩ : Addr).add j) = some u) := fun j u hj => by
      have e : (⟨b, off, none⟩ : Addr).add j = ⟨b, off + j, none⟩ := by unfold Addr.add; split <;> simp_all
      rw [e]; exact cell_alloc (hcell j u hj) _
    have H1 := Lib.hid (ops_one os)
    generalize (os.map opC).flatten = xs at *
    generalize os.length = n at *
    clear hcell
    go_enter Tryz.func19, Tryz.ntmps19
    go_wp2_with (at_builtin; refine wpList_append_own_at _ rfl _ _ 27 rfl w.heap.size 53 i0 (.agg zeroOp) 5 48 Tryz.underlying27 hi hz0 hz1 hz2 rfl (by decide) _ 0 [] rfl HO.out ⟨b, off, none⟩ n cap xs rfl HL.out HC.out H1.out (by unfold maxLen; omega) (by omega) (by simp) ?_; intro v' w1 hown hgrow _ hblk)
    go_ret
    refine ⟨_, rfl, by simpa using hown, ?_⟩
    exact Below.keep ((Below.refl _ _).alloc (Nat.le_refl _) _) (Nat.le_refl _) ((grown_keep hgrow).mono (fun k _ e => by injection e with e; exact Nat.le_of_eq e))

set_option maxRecDepth 100000 in
set_option maxHeartbeats 800000 in
theorem cloneEvs_any (base : Nat) (w : World) (v : Value) (os : List Ct.Event) (h : w.ownsRow base 76 11 v os.length (os.map evC).flatten) (hl : os.length ≤ 1000000000) :
    Calls Tryz.prog 30 #[v] w (Cloned 76 11 os.length (os.map evC).flatten w) := by
  obtain ⟨i0, hi, hz0, hz1, hz2⟩ := info_parts info_Event
  rcases RowAt.of_owns (N := fun _ => False) h (fun _ _ h => h) with ⟨rfl, h0, hx⟩ | ⟨b, off, cap, rfl, hb, hlt, hc, hm, hcell⟩
  · clear h
    have hnn : ∀ (W : World), (binOp BinOp.eql 62 (.slice none 0 0) (.slice none 0 0)).run Tryz.prog W = .ok (.bool true) W := fun _ => by kernel_rfl
    go_enter Tryz.func30, Tryz.ntmps30
    go_wp2_with fail
    go_ret
    refine ⟨_, rfl, ?_, Below.refl _ _⟩
    rw [hx, h0]; exact World.ownsRow_nil _ _ _ _
  · have hnl : ∀ (a : Addr) (n c : Nat) (W : World), (binOp BinOp.eql 62 (.slice (some a) n c) (.slice none 0 0)).run Tryz.prog W = .ok (.bool false) W := fun _ _ _ _ => by kernel_rfl
    have HO := Lib.hid (own_empty w w.heap.size (Nat.le_refl _) 76 11)
    have HL : Hid ((os.map evC).flatten.length = os.length * 11) := evs_len os
    have HC : Hid (∀ j u, (os.map evC).flatten[j]? = some u → (w.alloc (.cells #[] 76)).cell? ((⟨b, off, none⟩ : Addr).add j) = some u) := fun j u hj => by
      have e : (⟨b, off, none⟩ : Addr).add j = ⟨b, off + j, none⟩ := by unfold Addr.add; split <;> simp_all
      rw [e]; exact cell_alloc (hcell j u hj) _
    have H1 := Lib.hid (evs_one os)
    generalize (os.map evC).flatten = xs at *
    generalize os.length = n at *
    clear hcell h
    go_enter Tryz.func30, Tryz.ntmps30
    go_wp2_with (at_builtin; refine wpList_append_own_at _ rfl _ _ 62 rfl w.heap.size 76 i0 (.agg zeroEvent) 11 96 Tryz.underlying62 hi hz0 hz1 hz2 rfl (by decide) _ 0 [] rfl HO.out ⟨b, off, none⟩ n cap xs rfl HL.out HC.out H1.out (by unfold maxLen; omega) (by omega) (by simp) ?_; intro v' w1 hown hgrow _ hblk)
    go_ret
    refine ⟨_, rfl, by simpa using hown, ?_⟩
    exact Below.keep ((Below.refl _ _).alloc (Nat.le_refl _) _) (Nat.le_refl _) ((grown_keep hgrow).mono (fun k _ e => by injection e with e; exact Nat.le_of_eq e))

set_option maxRecDepth 100000 in
set_option maxHeartbeats 800000 in
theorem history_any (g : Ghost) (w : World) (m : MFix) (role : Nat → Option Role) (vth vpk vhi : Value) (ov : Nat → Value) (tb : Nat → Nat) (pk : List Int) (M : Ct.Mach) (X : Nat → Prop) (h : Body X g w m role vth vpk vhi ov tb pk M) (hl : M.history.length ≤ 1000000000) :
    Calls Tryz.prog 20 #[.pointer (some ⟨m.mb, 0, none⟩)] w (Cloned 76 11 M.history.length (M.history.map evC).flatten w) := by
  have HC := Lib.hid (cloneEvs_any 0 w vhi M.history h.hist hl)
  have c4 := h.cell 4
  simp at c4
  clear h
  go_enter Tryz.func20, Tryz.ntmps20
  go_wp2_with fail
  refine HC.out.mono ?_
  rintro e w1 ⟨v, rfl, h1, h2⟩
  go_wp2_with fail
  go_ret
  exact ⟨v, rfl, h1, h2⟩
end Go.Proofs.YtifehcegnofpkaaGreatDoor

namespace Go.Proofs.YtifehcegnofpkaaGreatDoor
open Go.RowKit
set_option linter.unusedVariables false

structure MachX (X : Nat → Prop) (g : Ghost) (w : World) (m : MFix) (role : Nat → Option Role) (vth vpk vhi : Value) (ov : Nat → Value) (tb : Nat → Nat) (pk : List Int) (M : Ct.Mach) : Prop where
  arena : ArenaAt g w M.st
  tab : TabAt g w m.hb m.m1 m.m2 m.m3 m.mask M.tab
  body : Body X g w m role vth vpk vhi ov tb pk M

def Ghost.withN (g : Ghost) (N : Nat → Prop) : Ghost := { g with N := N }
@[simp] theorem Ghost.withN_a (g : Ghost) (N : Nat → Prop) : (g.withN N).a = g.a := rfl

/-- What a change of the machine's own blocks of one role leaves. -/
structure Rest (ρ : Role) (X : Nat → Prop) (g' : Ghost) (w' : World) (m : MFix) (role : Nat → Option Role) (vth vpk vhi : Value) (ov : Nat → Value) (tb : Nat → Nat) (pk : List Int) (M : Ct.Mach) : Prop where
  arena : ArenaAt g' w' M.st
  tab : TabAt g' w' m.hb m.m1 m.m2 m.m3 m.mask M.tab
  blk : ρ ≠ .mach → w'.heap[m.mb]? = some (.cells #[.pointer (some ⟨g'.a, 0, none⟩), .pointer (some ⟨m.hb, 0, none⟩), vth, vpk, vhi, .int .i64 (M.count : Nat)] 64 (0, 0))
  ths : ρ ≠ .threads → w'.ownsRow 0 68 3 vth M.threads.length (thRows ov tb M.threads).flatten
  hist : ρ ≠ .hist → w'.ownsRow 0 76 11 vhi M.history.length (M.history.map evC).flatten
  picks : ρ ≠ .picks → w'.ownsRow 0 69 1 vpk pk.length (pk.map (Value.int .i8))
  ops : ∀ i t, M.threads[i]? = some t → OpsAt g'.N w' (ov i) t.ops
  task : ∀ i t c, ¬ X i → ρ ≠ .task i → M.threads[i]? = some t → t.present = some c → (∃ n, TaskAt g' w' (tb i) c n ∧ n ≤ M.count) ∧ role (tb i) = some (.task i)
  rN : ∀ k r, role k = some r → g'.N k ∧ ¬ g'.Foot k ∧ k < w'.heap.size

theorem MachX.rest {X F N' : Nat → Prop} {g : Ghost} {w w' : World} {m : MFix} {role : Nat → Option Role} {vth vpk vhi : Value} {ov : Nat → Value} {tb : Nat → Nat} {pk : List Int} {M : Ct.Mach} (ρ : Role)
    (h : MachX X g w m role vth vpk vhi ov tb pk M) (hk : Keep F w w') (hF : ∀ k, F k → role k = some ρ ∨ w.heap.size ≤ k) (hρ : ρ ≠ .table ∧ ρ ≠ .ops ∧ ρ ≠ .tries ∧ ρ ≠ .iters)
    (hN : ∀ k, N' k → g.N k ∨ w.heap.size ≤ k) (hO : ∀ k, g.N k → N' k) (hL : ∀ k, N' k → k < w'.heap.size) : Rest ρ X (g.withN N') w' m role vth vpk vhi ov tb pk M := by
  have hb := h.body
  have hFN : ∀ k, F k → g.N k ∨ w.heap.size ≤ k := fun k hf => (hF k hf).imp (fun hr => (hb.rN k _ hr).1) id
  have ne : ∀ k r, role k = some r → r ≠ ρ → ¬ F k := fun k r hr n1 hf => by
    rcases hF k hf with h1 | h1
    · rw [hr] at h1; injection h1 with h1; exact n1 h1
    · have := (hb.rN k r hr).2.2; omega
  have hFt : ∀ k, F k → ¬ g.Foot k := fun k hf hg => by
    rcases hF k hf with h1 | h1
    · exact (hb.rN k _ h1).2.1 hg
    · have := h.arena.nlt k (h.arena.foot k hg); omega
  refine ⟨h.arena.keep hk hFt hFN hN hO hL, h.tab.keep hk ⟨ne _ _ hb.rhb (Ne.symm hρ.1), ne _ _ hb.rm1 (Ne.symm hρ.2.1), ne _ _ hb.rm2 (Ne.symm hρ.2.2.1), ne _ _ hb.rm3 (Ne.symm hρ.2.2.2)⟩ rfl hO (fun _ h => .inl h), fun n1 => ?_, fun n1 => ?_, fun n1 => ?_, fun n1 => ?_, fun i t ht => (hb.ops i t ht).keep hk hFN hN, fun i t c hx n1 ht hc => ?_, fun k r hr => ?_⟩
  · rw [hk.block _ (hb.rN _ _ hb.rmb).2.2 (ne _ _ hb.rmb (Ne.symm n1))]; exact hb.blk
  · exact ownsRow_keep hb.ths hk (fun k hv => ne k _ (hb.rth k hv) (Ne.symm n1))
  · exact ownsRow_keep hb.hist hk (fun k hv => ne k _ (hb.rhi k hv) (Ne.symm n1))
  · exact ownsRow_keep hb.picks hk (fun k hv => ne k _ (hb.rpk k hv) (Ne.symm n1))
  · obtain ⟨⟨n, h1, h2⟩, h3⟩ := hb.task i t c hx ht hc
    exact ⟨⟨n, h1.mv hk (ne _ _ h3 (Ne.symm n1)) hFN rfl hN hO (fun _ h => .inl h), h2⟩, h3⟩
  · have := hb.rN k r hr
    exact ⟨hO k this.1, this.2.1, Nat.lt_of_lt_of_le this.2.2 hk.size⟩

theorem withN_self (g : Ghost) : g.withN g.N = g := rfl

/-- The count goes on by one. -/
theorem MachX.count {X : Nat → Prop} {g : Ghost} {w : World} {m : MFix} {role : Nat → Option Role} {vth vpk vhi : Value} {ov : Nat → Value} {tb : Nat → Nat} {pk : List Int} {M : Ct.Mach} (h : MachX X g w m role vth vpk vhi ov tb pk M) (c : Nat) (hc' : M.count ≤ c) :
    MachX X g (w.setCell ⟨m.mb, 5, none⟩ (.int .i64 (c : Nat))) m role vth vpk vhi ov tb pk { M with count := c } := by
  have hb := h.body
  have R := h.rest (N' := g.N) .mach (Keep.setCell (F := fun k => role k = some .mach) w ⟨m.mb, 5, none⟩ (.int .i64 (c : Nat)) hb.rmb) (fun k hk => .inl hk) (by simp) (fun _ h => .inl h) (fun _ h => h) (fun k hk => Nat.lt_of_lt_of_le (h.arena.nlt k hk) (Keep.setCell (F := fun k => role k = some .mach) w ⟨m.mb, 5, none⟩ (.int .i64 (c : Nat)) hb.rmb).size)
  rw [withN_self] at R
  refine ⟨R.arena, R.tab, ⟨?_, R.ths (by simp), R.hist (by simp), R.picks (by simp), R.ops, fun i t c' hx ht hc => (R.task i t c' hx (by simp) ht hc).imp (fun ⟨n, h1, h2⟩ => ⟨n, h1, Nat.le_trans h2 hc'⟩) id, hb.rmb, hb.rhb, hb.rm1, hb.rm2, hb.rm3, hb.rth, hb.rhi, hb.rpk, R.rN⟩⟩
  rw [heap_setCell_at w m.mb 5 _ _ _ _ hb.blk]; rfl

/-- An event was appended, and the new list laid into the machine. -/
theorem MachX.event {X : Nat → Prop} {g : Ghost} {w w1 : World} {m : MFix} {role : Nat → Option Role} {vth vpk vhi : Value} {ov : Nat → Value} {tb : Nat → Nat} {pk : List Int} {M : Ct.Mach} (h : MachX X g w m role vth vpk vhi ov tb pk M) (e : Ct.Event) (gb cap : Nat)
    (hk : Keep (fun k => vhi.ownBlock = some k ∨ w.heap.size ≤ k) w w1) (hown : w1.ownsRow 0 76 11 (.slice (some ⟨gb, 0, none⟩) (M.history.length + 1) cap) (M.history.length + 1) ((M.history.map evC).flatten ++ evC e)) (hgb : vhi.ownBlock = some gb ∨ w.heap.size ≤ gb) :
    MachX X (g.withN fun k => g.N k ∨ k = gb) (w1.setCell ⟨m.mb, 4, none⟩ (.slice (some ⟨gb, 0, none⟩) (M.history.length + 1) cap)) m (fun k => if k = gb then some .hist else role k) vth vpk (.slice (some ⟨gb, 0, none⟩) (M.history.length + 1) cap) ov tb pk { M with history := M.history ++ [e] } := by
  have hb := h.body
  have hgl : gb < w1.heap.size := (hown.lt gb rfl).2
  have hgr : role gb = some .hist ∨ w.heap.size ≤ gb := hgb.imp (hb.rhi gb) id
  have R := h.rest (N' := fun k => g.N k ∨ k = gb) .hist hk (fun k hk => hk.imp (hb.rhi k) id) (by simp) (fun k hk => hk.elim .inl (fun e => hgr.imp (fun h1 => e ▸ (hb.rN gb _ h1).1) (fun h1 => e ▸ h1))) (fun _ h => .inl h) (fun k hk => hk.elim (fun h1 => Nat.lt_of_lt_of_le (h.arena.nlt k h1) (Keep.size ‹_›)) (fun e => e ▸ hgl))
  have nr : ∀ k r, role k = some r → r ≠ .hist → k ≠ gb := fun k r hr n1 e => by
    subst e
    rcases hgr with h1 | h1
    · rw [hr] at h1; injection h1 with h1; exact n1 h1
    · have := (hb.rN k r hr).2.2; omega
  have hmb : m.mb ≠ gb := nr _ _ hb.rmb (by simp)
  obtain ⟨g', hg'⟩ : ∃ g', g' = g.withN fun k => g.N k ∨ k = gb := ⟨_, rfl⟩
  rw [← hg'] at R ⊢
  have hga : g'.a = g.a := by rw [hg']; rfl
  have hgN : ∀ k, g'.N k ↔ g.N k ∨ k = gb := fun k => by rw [hg']; rfl
  have hgF : ∀ k, g'.Foot k ↔ g.Foot k := fun k => by rw [hg']; rfl
  have k2 : Keep (fun k => k = m.mb) w1 (w1.setCell ⟨m.mb, 4, none⟩ (.slice (some ⟨gb, 0, none⟩) (M.history.length + 1) cap)) := Keep.setCell w1 ⟨m.mb, 4, none⟩ _ rfl
  have hmN := R.rN _ _ hb.rmb
  have ne2 : ∀ k r, role k = some r → r ≠ .mach → ¬ k = m.mb := fun k r hr n1 e => by subst e; rw [hb.rmb] at hr; injection hr with hr; exact n1 hr.symm
  refine ⟨R.arena.own k2 hmN.1 hmN.2.1, R.tab.keep k2 ⟨ne2 _ _ hb.rhb (by simp), ne2 _ _ hb.rm1 (by simp), ne2 _ _ hb.rm2 (by simp), ne2 _ _ hb.rm3 (by simp)⟩ rfl (fun _ h => h) (fun _ h => .inl h), ⟨?_, ?_, ?_, ?_, fun i t ht => (R.ops i t ht).keep k2 (fun k hk => .inl (hk ▸ hmN.1)) (fun _ h => .inl h), fun i t c hx ht hc => ?_, ?_, ?_, ?_, ?_, ?_, fun k hv => ?_, fun k hv => ?_, fun k hv => ?_, fun k r hr => ?_⟩⟩
  · rw [heap_setCell_at w1 m.mb 4 _ _ _ _ (R.blk (by simp))]; rfl
  · exact ownsRow_keep (R.ths (by simp)) k2 (fun k hv => ne2 k _ (hb.rth k hv) (by simp))
  · have h3 := ownsRow_keep hown k2 (fun k hv e => hmb (by injection hv with hv; exact (hv.trans e).symm))
    simpa using h3
  · exact ownsRow_keep (R.picks (by simp)) k2 (fun k hv => ne2 k _ (hb.rpk k hv) (by simp))
  · obtain ⟨⟨n, h1, h2⟩, h3⟩ := R.task i t c hx (by simp) ht hc
    exact ⟨⟨n, h1.mv k2 (ne2 _ _ h3 (by simp)) (fun k hk => .inl (hk ▸ hmN.1)) rfl (fun _ h => .inl h) (fun _ h => h) (fun _ h => .inl h), h2⟩, by rw [if_neg (nr _ _ h3 (by simp))]; exact h3⟩
  · rw [if_neg hmb]; exact hb.rmb
  · rw [if_neg (nr _ _ hb.rhb (by simp))]; exact hb.rhb
  · rw [if_neg (nr _ _ hb.rm1 (by simp))]; exact hb.rm1
  · rw [if_neg (nr _ _ hb.rm2 (by simp))]; exact hb.rm2
  · rw [if_neg (nr _ _ hb.rm3 (by simp))]; exact hb.rm3
  · rw [if_neg (nr _ _ (hb.rth k hv) (by simp))]; exact hb.rth k hv
  · injection hv with hv; rw [if_pos hv.symm]
  · rw [if_neg (nr _ _ (hb.rpk k hv) (by simp))]; exact hb.rpk k hv
  · by_cases e : k = gb
    · subst e
      refine ⟨(hgN k).2 (.inr rfl), fun hf => ?_, Nat.lt_of_lt_of_le hgl k2.size⟩
      rcases hgr with h1 | h1
      · exact (hb.rN k _ h1).2.1 ((hgF k).1 hf)
      · have := h.arena.nlt k (h.arena.foot k ((hgF k).1 hf)); omega
    · rw [if_neg e] at hr
      have := R.rN k r hr
      exact ⟨this.1, this.2.1, Nat.lt_of_lt_of_le this.2.2 k2.size⟩

/-- A thread's own cells were written: its row is another one now. -/
theorem MachX.row {X : Nat → Prop} {g : Ghost} {w : World} {m : MFix} {role : Nat → Option Role} {vth vpk vhi : Value} {ov : Nat → Value} {tb tb' : Nat → Nat} {pk : List Int} {M : Ct.Mach} (h : MachX X g w m role vth vpk vhi ov tb pk M) (i j gt cap : Nat) (t t' : Ct.Th) (v : Value) (hi : M.threads[i]? = some t)
    (hv : vth = .slice (some ⟨gt, 0, none⟩) M.threads.length cap) (hj : j < 3) (htb : ∀ k, k ≠ i → tb' k = tb k) (hrow : (thC (ov i) (tb i) t).set j v = thC (ov i) (tb' i) t') (hops : t'.ops = t.ops)
    (hX : X i ∨ t'.present = none ∨ (tb' i = tb i ∧ t'.present = t.present)) :
    MachX X g (w.setCell ⟨gt, i * 3 + j, none⟩ v) m role vth vpk vhi ov tb' pk { M with threads := M.threads.set i t' } := by
  have hb := h.body
  have hlt := (List.getElem?_eq_some_iff.1 hi).1
  have hgt : role gt = some .threads := hb.rth gt (by rw [hv]; rfl)
  have R := h.rest (N' := g.N) .threads (Keep.setCell (F := fun k => role k = some .threads) w ⟨gt, i * 3 + j, none⟩ v hgt) (fun k hk => .inl hk) (by simp) (fun _ h => .inl h) (fun _ h => h) (fun k hk => Nat.lt_of_lt_of_le (h.arena.nlt k hk) (Keep.setCell (F := fun k => role k = some .threads) w ⟨gt, i * 3 + j, none⟩ v hgt).size)
  rw [withN_self] at R
  have hset : ∀ k, (M.threads.set i t')[k]? = if i = k then some t' else M.threads[k]? := fun k => by rw [List.getElem?_set]; split <;> simp
  refine ⟨R.arena, R.tab, ⟨R.blk (by simp), ?_, R.hist (by simp), R.picks (by simp), fun k u hu => ?_, fun k u c hx hu hc => ?_, hb.rmb, hb.rhb, hb.rm1, hb.rm2, hb.rm3, hb.rth, hb.rhi, hb.rpk, R.rN⟩⟩
  · have h0 := hb.ths
    subst hv
    have h1 := (h0.stored (i * 3 + j) v).1
    rw [Nat.mul_comm i 3, flat_set 3 _ i j v (thRows_three ov tb _) hj (thC (ov i) (tb i) t) (by rw [thRows_get, hi]; rfl), hrow] at h1
    have e : (thRows ov tb M.threads).set i (thC (ov i) (tb' i) t') = thRows ov tb' (M.threads.set i t') := by
      apply List.ext_getElem?
      intro k
      rw [List.getElem?_set, thRows_get, thRows_get, hset k, thRows_len]
      by_cases hk : i = k
      · subst hk; simp [hlt]
      · simp only [hk, if_false]; rw [htb k (fun e => hk e.symm)]
    rw [e] at h1
    show World.ownsRow _ 0 _ 3 _ (M.threads.set i t').length _
    rw [List.length_set, Nat.mul_comm i 3]; exact h1
  · show OpsAt g.N _ (ov k) u.ops
    rw [hset k] at hu
    by_cases hk : i = k
    · subst hk
      rw [if_pos rfl] at hu; injection hu with hu
      subst hu
      rw [hops]; exact R.ops i t hi
    · rw [if_neg hk] at hu; exact R.ops k u hu
  · rw [hset k] at hu
    by_cases hk : i = k
    · subst hk
      rw [if_pos rfl] at hu; injection hu with hu
      subst hu
      rcases hX with h1 | h1 | ⟨h1, h2⟩
      · exact absurd h1 hx
      · rw [h1] at hc; cases hc
      · rw [h1]; exact R.task i t c hx (by simp) hi (by rw [← h2]; exact hc)
    · rw [if_neg hk] at hu
      rw [htb k (fun e => hk e.symm)]
      exact R.task k u c hx (by simp) hu hc
/-- Behind a call that changed the arena, the table and the tasks of X. -/
theorem MachX.call {X F : Nat → Prop} {g g' : Ghost} {w w' : World} {m : MFix} {role : Nat → Option Role} {vth vpk vhi : Value} {ov : Nat → Value} {tb : Nat → Nat} {pk : List Int} {M : Ct.Mach} {s' : Ct.St} {T' : Ct.Tab}
    (h : MachX X g w m role vth vpk vhi ov tb pk M) (hk : Keep F w w') (hF : ∀ k, F k → Other X g role k ∨ w.heap.size ≤ k) (ea : g'.a = g.a) (new : ∀ k, g'.N k → g.N k ∨ w.heap.size ≤ k) (old : ∀ k, g.N k → g'.N k) (foot : ∀ k, g'.Foot k → g.Foot k ∨ w.heap.size ≤ k)
    (ha : ArenaAt g' w' s') (ht : TabAt g' w' m.hb m.m1 m.m2 m.m3 m.mask T') : MachX X g' w' m role vth vpk vhi ov tb pk { M with st := s', tab := T' } :=
  ⟨ha, ht, h.body.keep (fun k _ hf => h.arena.foot k hf) hk hF ea new old foot⟩

/-- The tasks of more threads are not spoken of. -/
theorem MachX.less {X Y : Nat → Prop} {g : Ghost} {w : World} {m : MFix} {role : Nat → Option Role} {vth vpk vhi : Value} {ov : Nat → Value} {tb : Nat → Nat} {pk : List Int} {M : Ct.Mach} (h : MachX X g w m role vth vpk vhi ov tb pk M) (hXY : ∀ i, X i → Y i) : MachX Y g w m role vth vpk vhi ov tb pk M :=
  ⟨h.arena, h.tab, ⟨h.body.blk, h.body.ths, h.body.hist, h.body.picks, h.body.ops, fun i t c hx ht hc => h.body.task i t c (fun hi => hx (hXY i hi)) ht hc, h.body.rmb, h.body.rhb, h.body.rm1, h.body.rm2, h.body.rm3, h.body.rth, h.body.rhi, h.body.rpk, h.body.rN⟩⟩

/-- Thread i's task is spoken of again, in a block that is known. -/
theorem MachX.task {g : Ghost} {w : World} {m : MFix} {role : Nat → Option Role} {vth vpk vhi : Value} {ov : Nat → Value} {tb : Nat → Nat} {pk : List Int} {M : Ct.Mach} (i : Nat) (t : Ct.Th) (h : MachX (fun k => k = i) g w m role vth vpk vhi ov tb pk M) (hi : M.threads[i]? = some t)
    (hT : ∀ c, t.present = some c → (∃ n, TaskAt g w (tb i) c n ∧ n ≤ M.count) ∧ (role (tb i) = some (.task i) ∨ role (tb i) = none)) :
    MachX (fun _ => False) g w m (fun k => if t.present.isSome = true ∧ k = tb i then some (.task i) else role k) vth vpk vhi ov tb pk M := by
  have hb := h.body
  by_cases hp : t.present.isSome = true
  · obtain ⟨c, hc⟩ := Option.isSome_iff_exists.1 hp
    obtain ⟨⟨n, h1, h2⟩, h3⟩ := hT c hc
    have nr : ∀ k r, role k = some r → (∀ i, r ≠ .task i) → (if t.present.isSome = true ∧ k = tb i then some (Role.task i) else role k) = some r := fun k r hr n1 => by
      rw [if_neg]; exact hr
      rintro ⟨_, rfl⟩
      rcases h3 with h3 | h3
      · rw [h3] at hr; injection hr with hr; exact n1 i hr.symm
      · rw [h3] at hr; cases hr
    refine ⟨h.arena, h.tab, ⟨hb.blk, hb.ths, hb.hist, hb.picks, hb.ops, fun k u c' _ hu hc' => ?_, nr _ _ hb.rmb (by simp), nr _ _ hb.rhb (by simp), nr _ _ hb.rm1 (by simp), nr _ _ hb.rm2 (by simp), nr _ _ hb.rm3 (by simp), fun k hv => nr _ _ (hb.rth k hv) (by simp), fun k hv => nr _ _ (hb.rhi k hv) (by simp), fun k hv => nr _ _ (hb.rpk k hv) (by simp), fun k r hr => ?_⟩⟩
    · by_cases hk : k = i
      · subst hk
        rw [hi] at hu; injection hu with hu; subst hu
        rw [hc] at hc'; injection hc' with hc'; subst hc'
        exact ⟨⟨n, h1, h2⟩, by rw [if_pos ⟨hp, rfl⟩]⟩
      · obtain ⟨q1, q2⟩ := hb.task k u c' hk hu hc'
        refine ⟨q1, ?_⟩
        rw [if_neg]; exact q2
        rintro ⟨_, e⟩
        rw [e] at q2
        rcases h3 with h3 | h3
        · rw [h3] at q2; injection q2 with q2; injection q2 with q2; exact hk q2.symm
        · rw [h3] at q2; cases q2
    · by_cases e : k = tb i
      · subst e
        exact ⟨h1.inN, h1.out, by obtain ⟨⟨cs, hT', _⟩, _, _⟩ := h1; exact hT'.lt⟩
      · rw [if_neg (fun h => e h.2)] at hr; exact hb.rN k r hr
  · have e : (fun k => if t.present.isSome = true ∧ k = tb i then some (Role.task i) else role k) = role := funext fun k => if_neg (fun h => hp h.1)
    rw [e]
    refine ⟨h.arena, h.tab, ⟨hb.blk, hb.ths, hb.hist, hb.picks, hb.ops, fun k u c' _ hu hc' => ?_, hb.rmb, hb.rhb, hb.rm1, hb.rm2, hb.rm3, hb.rth, hb.rhi, hb.rpk, hb.rN⟩⟩
    by_cases hk : k = i
    · subst hk
      rw [hi] at hu; injection hu with hu; subst hu
      rw [hc'] at hp; exact absurd rfl hp
    · exact hb.task k u c' hk hu hc'
theorem MachX.begun {X : Nat → Prop} {g g' : Ghost} {w w' : World} {m : MFix} {role : Nat → Option Role} {vth vpk vhi : Value} {ov : Nat → Value} {tb : Nat → Nat} {pk : List Int} {M : Ct.Mach} {s' : Ct.St} {T' : Ct.Tab}
    (h : MachX X g w m role vth vpk vhi ov tb pk M) (hs : StepF (fun k => k = m.m1) g w g' w') (ha : ArenaAt g' w' s') (ht : TabAt g' w' m.hb m.m1 m.m2 m.m3 m.mask T') : MachX X g' w' m role vth vpk vhi ov tb pk { M with st := s', tab := T' } :=
  h.call hs.keep (fun k hk => .inl (hk.elim .inl (fun e => .inr (.inl (e ▸ h.body.rm1))))) hs.a hs.new hs.old hs.foot ha ht
theorem MachX.stepped {g g' : Ghost} {w w' : World} {m : MFix} {role : Nat → Option Role} {vth vpk vhi : Value} {ov : Nat → Value} {tb : Nat → Nat} {pk : List Int} {M : Ct.Mach} {s' : Ct.St} (i : Nat)
    (h : MachX (fun k => k = i) g w m role vth vpk vhi ov tb pk M) (hs : StepT (tb i) g w g' w') (hr : role (tb i) = some (.task i)) (ha : ArenaAt g' w' s') : MachX (fun k => k = i) g' w' m role vth vpk vhi ov tb pk { M with st := s' } := by
  have ne : ∀ k r, role k = some r → (∀ j, r ≠ .task j) → k ≠ tb i := fun k r hk n1 e => by subst e; rw [hr] at hk; injection hk with hk; exact n1 i hk.symm
  exact h.call hs.keep (fun k hk => .inl (hk.elim .inl (fun e => .inr (.inr (.inr (.inr ⟨i, rfl, e ▸ hr⟩)))))) hs.a hs.new hs.old hs.foot ha (h.tab.stepT hs ⟨ne _ _ h.body.rhb (by simp), ne _ _ h.body.rm1 (by simp), ne _ _ h.body.rm2 (by simp), ne _ _ h.body.rm3 (by simp)⟩)
theorem MachX.finished {X : Nat → Prop} {g : Ghost} {w w' : World} {m : MFix} {role : Nat → Option Role} {vth vpk vhi : Value} {ov : Nat → Value} {tb : Nat → Nat} {pk : List Int} {M : Ct.Mach} {T' : Ct.Tab}
    (h : MachX X g w m role vth vpk vhi ov tb pk M) (hk : Keep (fun k => k = m.m1 ∨ k = m.m2) w w') (ha : ArenaAt g w' M.st) (ht : TabAt g w' m.hb m.m1 m.m2 m.m3 m.mask T') : MachX X g w' m role vth vpk vhi ov tb pk { M with tab := T' } :=
  h.call (s' := M.st) hk (fun k hk => .inl (hk.elim (fun e => .inr (.inl (e ▸ h.body.rm1))) (fun e => .inr (.inr (.inl (e ▸ h.body.rm2)))))) rfl (fun _ h => .inl h) (fun _ h => h) (fun _ h => .inl h) ha ht
theorem MachX.below {X : Nat → Prop} {g : Ghost} {w w' : World} {m : MFix} {role : Nat → Option Role} {vth vpk vhi : Value} {ov : Nat → Value} {tb : Nat → Nat} {pk : List Int} {M : Ct.Mach} (h : MachX X g w m role vth vpk vhi ov tb pk M) (hb : Below w.heap.size w w') : MachX X g w' m role vth vpk vhi ov tb pk M := ⟨h.arena.below hb, h.tab.below hb, h.body.below hb⟩
theorem Below.drew0 (w : World) : Below w.heap.size w w.drew := ⟨rfl, rfl, rfl, Nat.le_refl _, fun _ _ => rfl⟩
theorem MachX.norole {X : Nat → Prop} {g : Ghost} {w : World} {m : MFix} {role : Nat → Option Role} {vth vpk vhi : Value} {ov : Nat → Value} {tb : Nat → Nat} {pk : List Int} {M : Ct.Mach} (h : MachX X g w m role vth vpk vhi ov tb pk M) (k : Nat) (hk : w.heap.size ≤ k) : role k = none := by
  cases e : role k with
  | none => rfl
  | some r => have := (h.body.rN k r e).2.2; omega
/-- A new block is counted among those that may change. -/
theorem MachX.plus {X : Nat → Prop} {g : Ghost} {w w' : World} {m : MFix} {role : Nat → Option Role} {vth vpk vhi : Value} {ov : Nat → Value} {tb : Nat → Nat} {pk : List Int} {M : Ct.Mach} (h : MachX X g w m role vth vpk vhi ov tb pk M) (hb : Below w.heap.size w w') (a : Nat) (ha : w.heap.size ≤ a) (hl : a < w'.heap.size) : MachX X (g.withN fun k => g.N k ∨ k = a) w' m role vth vpk vhi ov tb pk M := by
  have new : ∀ k, g.N k ∨ k = a → g.N k ∨ w.heap.size ≤ k := fun k hk => hk.imp id (fun e => by omega)
  refine h.call (s' := M.st) (T' := M.tab) (Keep.below hb (fun _ => False)) (fun _ h => h.elim) rfl new (fun _ h => .inl h) (fun _ h => .inl h) ?_ ?_
  · exact h.arena.keep (Keep.below hb (fun _ => False)) (fun _ h => h.elim) (fun _ h => h.elim) new (fun _ h => .inl h) (fun k hk => hk.elim (fun h1 => Nat.lt_of_lt_of_le (h.arena.nlt k h1) hb.size) (fun e => by omega))
  · exact h.tab.keep (Keep.below hb (fun _ => False)) ⟨fun h => h, fun h => h, fun h => h, fun h => h⟩ rfl (fun _ h => .inl h) (fun _ h => .inl h)
/-- A block that has no role may be written. -/
theorem MachX.scratch {X : Nat → Prop} {g : Ghost} {w w' : World} {m : MFix} {role : Nat → Option Role} {vth vpk vhi : Value} {ov : Nat → Value} {tb : Nat → Nat} {pk : List Int} {M : Ct.Mach} (h : MachX X g w m role vth vpk vhi ov tb pk M) (a : Nat) (hk : Keep (fun k => k = a) w w') (hN : g.N a) (hF : ¬ g.Foot a) (hr : role a = none) : MachX X g w' m role vth vpk vhi ov tb pk M := by
  have hb := h.body
  have ne : ∀ k r, role k = some r → ¬ k = a := fun k r hk e => by rw [e, hr] at hk; cases hk
  have hNa : ∀ k, k = a → g.N k ∨ w.heap.size ≤ k := fun k e => .inl (e ▸ hN)
  refine ⟨h.arena.own hk hN hF, h.tab.keep hk ⟨ne _ _ hb.rhb, ne _ _ hb.rm1, ne _ _ hb.rm2, ne _ _ hb.rm3⟩ rfl (fun _ h => h) (fun _ h => .inl h), ⟨?_, ?_, ?_, ?_, fun i t ht => (hb.ops i t ht).keep hk hNa (fun _ h => .inl h), fun i t c hx ht hc => ?_, hb.rmb, hb.rhb, hb.rm1, hb.rm2, hb.rm3, hb.rth, hb.rhi, hb.rpk, fun k r hr' => ?_⟩⟩
  · rw [hk.block _ (hb.rN _ _ hb.rmb).2.2 (ne _ _ hb.rmb)]; exact hb.blk
  · exact ownsRow_keep hb.ths hk (fun k hv => ne k _ (hb.rth k hv))
  · exact ownsRow_keep hb.hist hk (fun k hv => ne k _ (hb.rhi k hv))
  · exact ownsRow_keep hb.picks hk (fun k hv => ne k _ (hb.rpk k hv))
  · obtain ⟨⟨n, h1, h2⟩, h3⟩ := hb.task i t c hx ht hc
    exact ⟨⟨n, h1.mv hk (ne _ _ h3) hNa rfl (fun _ h => .inl h) (fun _ h => h) (fun _ h => .inl h), h2⟩, h3⟩
  · have := hb.rN k r hr'
    exact ⟨this.1, this.2.1, Nat.lt_of_lt_of_le this.2.2 hk.size⟩
end Go.Proofs.YtifehcegnofpkaaGreatDoor

namespace Go.Proofs.YtifehcegnofpkaaGreatDoor
open Go.RowKit
set_option linter.unusedVariables false

def beginM (T : Ct.Tab) (th ix : Int) (o : Ct.Op) (s : Ct.St) : Ct.Tab × Ct.Code × Ct.St :=
  ({ T with ops := bput T.ops (Ct.numberC th ix) (o.kind, Ct.trieOf T o.handle, false) }, if o.kind = 9 then Ct.apply Ct.stOps (.frz0 (Ct.trieOf T o.handle)) 0 s else (.done { err := 1 }, s))
def finishM (T : Ct.Tab) (th ix : Int) (r : Ct.Result) : Ct.Tab × Ct.Result :=
  match (T.ops.find? (fun p => p.1 == Ct.numberC th ix)).map (·.2) with
  | some (k, t0, false) => ({ T with ops := bput T.ops (Ct.numberC th ix) (k, t0, true), tries := if r.err = 0 ∧ k = 9 then tput T.tries (Ct.numberC th ix) r.trie else T.tries }, { r with ref := 0, trie := {} })
  | _ => (T, {})

/-- The operations that are known here: of kind 0, which are refused, and freezes of a handle that is known. -/
def KnownOp (T : Ct.Tab) (o : Ct.Op) : Prop := o.kind = 0 ∨ (o.kind = 9 ∧ ∃ t, (T.tries.find? (fun p => p.1 == o.handle)).map (·.2) = some t)

theorem begin_all (g : Ghost) (w : World) (s : Ct.St) (hb m1 m2 m3 mask : Nat) (T : Ct.Tab) (th ix : Int) (o : Ct.Op) (h : ArenaAt g w s) (ht : TabAt g w hb m1 m2 m3 mask T) (hfin : Fin 1000 s) (hn : 0 ≤ Ct.numberC th ix) (hnew : T.ops.find? (fun p => p.1 == Ct.numberC th ix) = none) (hk : KnownOp T o) :
    Calls Tryz.prog 24 #[.pointer (some ⟨hb, 0, none⟩), .int .i64 th, .int .i64 ix, .agg (opC o).toArray] w (BeginRes g w hb m1 m2 m3 mask (beginM T th ix o s).1 (beginM T th ix o s).2) := by
  obtain ⟨kind, hd, key, x, y⟩ := o
  rcases hk with hk | ⟨hk, t, hl⟩
  · simp only at hk; subst hk
    exact begin_zero g w s hb m1 m2 m3 mask T th ix hd key x y _ h ht hfin hn hnew rfl
  · simp only at hk hl; subst hk
    have e : Ct.trieOf T hd = t := by unfold Ct.trieOf; rw [hl]; rfl
    have := begin_freeze g w s hb m1 m2 m3 mask T th ix hd key x y t h ht hfin hn hnew hl
    unfold beginM
    simp only [e]
    exact this

theorem finish_all (g : Ghost) (w : World) (s : Ct.St) (hb m1 m2 m3 mask : Nat) (T : Ct.Tab) (th ix k : Int) (t0 : Ct.Trie) (r : Ct.Result) (h : ArenaAt g w s) (ht : TabAt g w hb m1 m2 m3 mask T) (hl : (T.ops.find? (fun p => p.1 == Ct.numberC th ix)).map (·.2) = some (k, t0, false)) (hk : r.err ≠ 0 ∨ k = 9) :
    Calls Tryz.prog 27 #[.pointer (some ⟨hb, 0, none⟩), .int .i64 th, .int .i64 ix, .agg (resCells r).toArray] w (FinRes g w s hb m1 m2 m3 mask (finishM T th ix r).1 (finishM T th ix r).2) := by
  obtain ⟨er, fd, va, ky, ct, rf, ⟨rt, ro⟩⟩ := r
  unfold finishM
  rw [hl]
  by_cases he : er = 0
  · subst he
    have hk9 : k = 9 := hk.elim (fun h => absurd rfl h) id
    subst hk9
    exact finish_freeze g w s hb m1 m2 m3 mask T th ix t0 ⟨rt, ro⟩ fd va ky ct rf h ht hl
  · have := finish_err g w s hb m1 m2 m3 mask T th ix k er t0 ⟨rt, ro⟩ fd va ky ct rf h ht hl he
    simp only [he, false_and, if_false]
    exact this

/-! ### a pick -/
/-- The first part: an operation begins, or its task makes a step. -/
def firstM (i : Nat) (t : Ct.Th) (M : Ct.Mach) : Ct.Mach × Ct.Code :=
  match t.present with
  | none =>
    let b := beginM M.tab i t.index (t.ops.getD t.index {}) M.st
    ({ st := b.2.2, tab := b.1, count := M.count + 1, history := M.history ++ [{ thread := i, index := t.index }], threads := M.threads.set i { t with present := some b.2.1 } }, b.2.1)
  | some c => ({ M with st := (Ct.step c M.st).2, count := M.count + 1, threads := M.threads.set i { t with present := some (Ct.step c M.st).1 } }, (Ct.step c M.st).1)
/-- The second part: an operation whose task is finished returns. -/
def lastM (i : Nat) (t : Ct.Th) (M : Ct.Mach) : Ct.Code → Ct.Mach
  | .done r =>
    let f := finishM M.tab i t.index r
    { M with tab := f.1, history := M.history ++ [{ thread := i, index := t.index, ret := true, result := f.2 }], threads := M.threads.set i { t with present := none, index := t.index + 1 } }
  | _ => M
def pickM (th : Int) (M : Ct.Mach) : Ct.Mach × Bool :=
  if th < 0 then (M, false)
  else match M.threads[th.toNat]? with
    | none => (M, false)
    | some t => if t.ops.length ≤ t.index then (M, false) else (lastM th.toNat t (firstM th.toNat t M).1 (firstM th.toNat t M).2, true)

/-- What a thread's tables hold. -/
structure ThInv (T : Ct.Tab) (i : Nat) (t : Ct.Th) : Prop where
  ops : t.ops.length ≤ 16
  kinds : ∀ o ∈ t.ops, o.kind = 0 ∨ (o.kind = 9 ∧ o.handle = 0)
  code : ∀ c, t.present = some c → c.wt ∧ c.rank ≤ 60 ∧ t.index < t.ops.length ∧ Code.isDone c = false
  later : ∀ j : Nat, t.index ≤ j → j < 16 → (t.present = none ∨ j ≠ t.index) → T.ops.find? (fun p => p.1 == Ct.numberC i j) = none
  now : t.present.isSome = true → ∃ t0, (T.ops.find? (fun p => p.1 == Ct.numberC i t.index)).map (·.2) = some (9, t0, false)
/-- A machine that can make n more picks. -/
structure MInv (n : Nat) (M : Ct.Mach) : Prop where
  fin : Fin (61000 + 100 * n) M.st
  cnt : M.count + n ≤ 1000000
  hist : M.history.length + 2 * n ≤ 1000000
  nth : M.threads.length ≤ 8
  th : ∀ i t, M.threads[i]? = some t → ThInv M.tab i t
  zero : ∃ t, (M.tab.tries.find? (fun p => p.1 == 0)).map (·.2) = some t
end Go.Proofs.YtifehcegnofpkaaGreatDoor

namespace Go.Proofs.YtifehcegnofpkaaGreatDoor
open Go.RowKit
set_option linter.unusedVariables false

def PickRes (g : Ghost) (w : World) (m : MFix) (vpk : Value) (pk : List Int) (r : Ct.Mach × Bool) (e : Ending) (w' : World) : Prop :=
  ∃ vn vc N role vth vhi ov tb, e = .returned (.bool r.2) ∧ MachX (fun _ => False) ⟨g.a, vn, vc, N⟩ w' m role vth vpk vhi ov tb pk r.1 ∧ Mv g w ⟨g.a, vn, vc, N⟩ w'

theorem op_cells {N : Nat → Prop} {w : World} {v : Value} {os : List Ct.Op} (h : OpsAt N w v os) (j : Nat) (o : Ct.Op) (hj : os[j]? = some o) : ∃ b off cap, v = .slice (some ⟨b, off, none⟩) os.length cap ∧ ¬ N b ∧ b < w.heap.size ∧ ∀ k, k < 5 → w.cell? ⟨b, off + j * 5 + k, none⟩ = (opC o)[k]? := by
  have hlt := (List.getElem?_eq_some_iff.1 hj).1
  rcases h with ⟨_, h0, _⟩ | ⟨b, off, cap, hv, hb, hl, hc, hm, hcell⟩
  · omega
  · refine ⟨b, off, cap, hv, hb, hl, fun k hk => ?_⟩
    have e := ops_get os j k o hj hk
    obtain ⟨x, hx⟩ : ∃ x, (opC o)[k]? = some x := ⟨(opC o)[k]'(by rw [opC_len]; exact hk), List.getElem?_eq_getElem _⟩
    rw [hx] at e ⊢
    rw [Nat.mul_comm j 5, Nat.add_assoc]
    exact hcell _ _ e

/-- A region in whose orders the same variables come to the same values, which may speak of two numbers: what follows is walked once. -/
def Join (ACT : Nat → Nat → Act) (POST : Nat → Nat → World → Prop) (A : Act) (W : World) : Prop := ∃ a b, A = ACT a b ∧ POST a b W
theorem Join.of {ACT : Nat → Nat → Act} {POST : Nat → Nat → World → Prop} {W : World} (a b : Nat) (h : POST a b W) : Join ACT POST (ACT a b) W := ⟨a, b, rfl, h⟩
theorem wp_join {P : Program} {c : Code} {K : Act → World → Prop} {Q : Exit → Act → World → Prop} {a : Act} {w : World} {ACT : Nat → Nat → Act} (POST : Nat → Nat → World → Prop) (h : c.wp P (Exit.then (Join ACT POST) Q) a w) (k : ∀ a b W, POST a b W → Exit.then K Q .normal (ACT a b) W) : c.wp P (Exit.then K Q) a w := by
  refine Code.wp_mono (fun e A W he => ?_) h
  cases e with
  | normal => obtain ⟨x, y, h2, h3⟩ := he; subst h2; exact k x y W h3
  | _ => exact he

/-- Behind the append of an event and the store of the new list. -/
def EvPost (W2 : World) (vhi : Value) (m : MFix) (len : Nat) (xs : List Value) (gb cap : Nat) (W : World) : Prop :=
  ∃ w3, W = w3.setCell ⟨m.mb, 4, none⟩ (.slice (some ⟨gb, 0, none⟩) (len + 1) cap) ∧ w3.ownsRow 0 76 11 (.slice (some ⟨gb, 0, none⟩) (len + 1) cap) (len + 1) xs ∧ Keep (fun k => vhi.ownBlock = some k ∨ W2.heap.size ≤ k) W2 w3 ∧ (vhi.ownBlock = some gb ∨ W2.heap.size ≤ gb)
theorem EvPost.of {W2 w3 : World} {vhi : Value} {m : MFix} {len gb cap : Nat} {xs : List Value} {o : Obj} (hown : w3.ownsRow 0 76 11 (.slice (some ⟨gb, 0, none⟩) (len + 1) cap) (len + 1) xs) (hg : (W2.alloc o).grownBy w3 vhi.ownBlock) (hat : vhi.ownBlock = some gb ∨ gb = (W2.alloc o).heap.size) : EvPost W2 vhi m len xs gb cap (w3.setCell ⟨m.mb, 4, none⟩ (.slice (some ⟨gb, 0, none⟩) (len + 1) cap)) :=
  ⟨w3, rfl, hown, (Keep.alloc _ W2 o).trans (grown_keep hg) (fun k h => .inl (.inl h)), hat.imp id (fun h => by rw [h]; simp)⟩

/-- What the statement that begins an operation reads. -/
structure SevenS (m : MFix) (gt i off ob : Nat) (t : Ct.Th) (o : Ct.Op) (ocap : Nat) (W : World) : Prop where
  c1 : W.cell? ⟨m.mb, 1, none⟩ = some (.pointer (some ⟨m.hb, 0, none⟩))
  t0 : W.cell? ⟨gt, i * 3, none⟩ = some (.slice (some ⟨ob, off, none⟩) t.ops.length ocap)
  t1 : W.cell? ⟨gt, i * 3 + 1, none⟩ = some (.int .i64 (t.index : Nat))
  o0 : W.cell? ⟨ob, off + t.index * 5, none⟩ = some (.int .i64 o.kind)
  o1 : W.cell? ⟨ob, off + t.index * 5 + 1, none⟩ = some (.int .i64 o.handle)
  o2 : W.cell? ⟨ob, off + t.index * 5 + 2, none⟩ = some (.string o.key)
  o3 : W.cell? ⟨ob, off + t.index * 5 + 3, none⟩ = some (.int .u64 (o.value : Nat))
  o4 : W.cell? ⟨ob, off + t.index * 5 + 4, none⟩ = some (.int .u64 (o.expect : Nat))
theorem SevenS.set {m : MFix} {gt i off ob : Nat} {t : Ct.Th} {o : Ct.Op} {ocap : Nat} {W : World} (h : SevenS m gt i off ob t o ocap W) (v : Value) (h1 : ob ≠ gt) (h2 : m.mb ≠ gt) : SevenS m gt i off ob t o ocap (W.setCell ⟨gt, i * 3 + 2, none⟩ v) := by
  have far : ∀ (b k : Nat) (x : Value), b ≠ gt → W.cell? ⟨b, k, none⟩ = some x → (W.setCell ⟨gt, i * 3 + 2, none⟩ v).cell? ⟨b, k, none⟩ = some x := fun b k x hb hx => by
    rw [World.cell?_setCell_other _ _ _ _ (fun e => by injection e with e1 e2; exact hb (by first | exact e1 | exact e1.symm))]; exact hx
  have near : ∀ (k : Nat) (x : Value), k ≠ i * 3 + 2 → W.cell? ⟨gt, k, none⟩ = some x → (W.setCell ⟨gt, i * 3 + 2, none⟩ v).cell? ⟨gt, k, none⟩ = some x := fun k x hb hx => by
    rw [World.cell?_setCell_other _ _ _ _ (fun e => by injection e with e1 e2; exact hb (by first | exact e2 | exact e2.symm))]; exact hx
  exact ⟨far _ _ _ h2 h.c1, near _ _ (by omega) h.t0, near _ _ (by omega) h.t1, far _ _ _ h1 h.o0, far _ _ _ h1 h.o1, far _ _ _ h1 h.o2, far _ _ _ h1 h.o3, far _ _ _ h1 h.o4⟩

/-- Behind Begin and the store of its task. -/
def BegPost (g : Ghost) (w : World) (m : MFix) (at_ : Addr) (T : Ct.Tab) (c : Ct.Code × Ct.St) (tb _b : Nat) (W : World) : Prop :=
  ∃ w5 vn vc N, W = w5.setCell at_ (.pointer (some ⟨tb, 0, none⟩)) ∧ w.heap.size ≤ tb ∧ ArenaAt ⟨g.a, vn, vc, N⟩ w5 c.2 ∧ TabAt ⟨g.a, vn, vc, N⟩ w5 m.hb m.m1 m.m2 m.m3 m.mask T ∧ TaskAt ⟨g.a, vn, vc, N⟩ w5 tb c.1 0 ∧ StepF (fun k => k = m.m1) g w ⟨g.a, vn, vc, N⟩ w5


/-- Between the two parts of a pick. -/
structure Mid (g : Ghost) (w : World) (m : MFix) (pk : List Int) (i : Nat) (t : Ct.Th) (M : Ct.Mach) (gt cap : Nat) (g5 : Ghost) (W5 : World) (role : Nat → Option Role) (vpk vhi : Value) (ov : Nat → Value) (tb : Nat → Nat) (M5 : Ct.Mach) (c5 : Ct.Code) : Prop where
  mach : MachX (fun _ => False) g5 W5 m role (.slice (some ⟨gt, 0, none⟩) M5.threads.length cap) vpk vhi ov tb pk M5
  th : M5.threads[i]? = some { t with present := some c5 }
  mv : Mv g w g5 W5
  ga : g5.a = g.a
  eq : firstM i t M = (M5, c5)
  known : ∃ k t0, (M5.tab.ops.find? (fun p => p.1 == Ct.numberC (i : Nat) (t.index : Nat))).map (·.2) = some (k, t0, false) ∧ ∀ r, c5 = .done r → r.err ≠ 0 ∨ k = 9
  len : M5.history.length ≤ 1000000
  idx : t.index ≤ 16

/-- What the statements at the end of a pick read. -/
structure TenS (m : MFix) (gt i tb ix : Nat) (W : World) : Prop where
  c1 : W.cell? ⟨m.mb, 1, none⟩ = some (.pointer (some ⟨m.hb, 0, none⟩))
  t1 : W.cell? ⟨gt, i * 3 + 1, none⟩ = some (.int .i64 (ix : Nat))
  t2 : W.cell? ⟨gt, i * 3 + 2, none⟩ = some (.pointer (some ⟨tb, 0, none⟩))
theorem MachX.ten {X : Nat → Prop} {g : Ghost} {w : World} {m : MFix} {role : Nat → Option Role} {vpk vhi : Value} {ov : Nat → Value} {tb : Nat → Nat} {pk : List Int} {M : Ct.Mach} {gt cap i n : Nat} {t : Ct.Th} {c : Ct.Code} (h : MachX X g w m role (.slice (some ⟨gt, 0, none⟩) n cap) vpk vhi ov tb pk M) (hi : M.threads[i]? = some t) (hc : t.present = some c) : TenS m gt i (tb i) t.index w := by
  obtain ⟨gt', cap', hvt, hr3, hcell3, hfree3⟩ := h.body.thread i t hi
  injection hvt with e1 e2 e3; injection e1 with e1; injection e1 with e1; subst e1
  exact ⟨h.body.cell 1, hcell3 1 (by decide), by rw [hcell3 2 (by decide)]; simp [thC, hc]⟩

/-- Behind Finish: the result lies in a block of its own. -/
def TenPost (C : Ghost → World → Prop) (g5 : Ghost) (W5 : World) (role : Nat → Option Role) (R : Ct.Result) (a _b : Nat) (W : World) : Prop :=
  ∃ N, C ⟨g5.a, g5.vn, g5.vc, N⟩ W ∧ W.heap[a]? = some (.cells (resCells R).toArray 74 (0, 0)) ∧ Mv g5 W5 ⟨g5.a, g5.vn, g5.vc, N⟩ W ∧ role a = none
abbrev set8 (w : World) (b : Nat) (v0 v1 v2 v3 v4 v5 v6 v7 : Value) : World := (((((((w.setCell ⟨b, 0, none⟩ v0).setCell ⟨b, 1, none⟩ v1).setCell ⟨b, 2, none⟩ v2).setCell ⟨b, 3, none⟩ v3).setCell ⟨b, 4, none⟩ v4).setCell ⟨b, 5, none⟩ v5).setCell ⟨b, 6, none⟩ v6).setCell ⟨b, 7, none⟩ v7
theorem keep8 (w : World) (b : Nat) (v0 v1 v2 v3 v4 v5 v6 v7 : Value) : Keep (fun k => k = b) w (set8 w b v0 v1 v2 v3 v4 v5 v6 v7) := by
  have st : ∀ (w : World) (o : Nat) (v : Value), Keep (fun k => k = b) w (w.setCell ⟨b, o, none⟩ v) := fun w o v => Keep.setCell w ⟨b, o, none⟩ v rfl
  exact (((((((st w 0 v0).trans (st _ 1 v1) (fun _ h => .inl h)).trans (st _ 2 v2) (fun _ h => .inl h)).trans (st _ 3 v3) (fun _ h => .inl h)).trans (st _ 4 v4) (fun _ h => .inl h)).trans (st _ 5 v5) (fun _ h => .inl h)).trans (st _ 6 v6) (fun _ h => .inl h)).trans (st _ 7 v7) (fun _ h => .inl h)
theorem heap8 {w : World} {b : Nat} {t : TypeId} (v0 v1 v2 v3 v4 v5 v6 v7 : Value) (h : w.heap[b]? = some (.cells zeroRes t (0, 0))) : (set8 w b v0 v1 v2 v3 v4 v5 v6 v7).heap[b]? = some (.cells #[v0, v1, v2, v3, v4, v5, v6, v7] t (0, 0)) :=
  by
  have x0 := heap_setCell_at w b 0 v0 _ _ _ h
  have x1 := heap_setCell_at _ b 1 v1 _ _ _ x0
  have x2 := heap_setCell_at _ b 2 v2 _ _ _ x1
  have x3 := heap_setCell_at _ b 3 v3 _ _ _ x2
  have x4 := heap_setCell_at _ b 4 v4 _ _ _ x3
  have x5 := heap_setCell_at _ b 5 v5 _ _ _ x4
  have x6 := heap_setCell_at _ b 6 v6 _ _ _ x5
  have x7 := heap_setCell_at _ b 7 v7 _ _ _ x6
  rw [x7]
  simp [zeroRes]
/-- What Finish and what is new leave. -/
theorem Mv.ten {g : Ghost} {W W' : World} {N' : Nat → Prop} {m : MFix} (h1 : g.N m.m1) (h2 : g.N m.m2) (hk : Keep (fun k => (k = m.m1 ∨ k = m.m2) ∨ W.heap.size ≤ k) W W') (hN : ∀ k, N' k → g.N k ∨ W.heap.size ≤ k) : Mv g W ⟨g.a, g.vn, g.vc, N'⟩ W' :=
  ⟨⟨_, hk, fun k hk => by rcases hk with (e | e) | e; exact .inl (e ▸ h1); exact .inl (e ▸ h2); exact .inr e⟩, hN⟩
theorem Mv.setCell {g : Ghost} (W : World) (b o : Nat) (v : Value) (hN : g.N b) : Mv g W g (W.setCell ⟨b, o, none⟩ v) := ⟨⟨fun k => k = b, Keep.setCell W ⟨b, o, none⟩ v rfl, fun k e => .inl (e ▸ hN)⟩, fun _ h => .inl h⟩
theorem MachX.eventMv {X : Nat → Prop} {g : Ghost} {w w1 : World} {m : MFix} {role : Nat → Option Role} {vth vpk vhi v : Value} {ov : Nat → Value} {tb : Nat → Nat} {pk : List Int} {M : Ct.Mach} (h : MachX X g w m role vth vpk vhi ov tb pk M) (gb : Nat)
    (hk : Keep (fun k => vhi.ownBlock = some k ∨ w.heap.size ≤ k) w w1) (hgb : vhi.ownBlock = some gb ∨ w.heap.size ≤ gb) : Mv g w (g.withN fun k => g.N k ∨ k = gb) (w1.setCell ⟨m.mb, 4, none⟩ v) := by
  refine ⟨⟨fun k => (vhi.ownBlock = some k ∨ w.heap.size ≤ k) ∨ k = m.mb, (hk.mono (fun k _ h => .inl h)).trans (Keep.setCell (F := fun k => k = m.mb) w1 ⟨m.mb, 4, none⟩ _ rfl) (fun k e => .inl (.inr e)), fun k hk => ?_⟩, fun k hk => hk.elim .inl (fun e => hgb.imp (fun h1 => e ▸ (h.body.rN _ _ (h.body.rhi _ h1)).1) (fun h1 => e ▸ h1))⟩
  rcases hk with (h1 | h1) | h1
  · exact .inl (h.body.rN _ _ (h.body.rhi _ h1)).1
  · exact .inr h1
  · exact .inl (h1 ▸ (h.body.rN _ _ h.body.rmb).1)
theorem bput_find (es : List (Int × Int × Ct.Trie × Bool)) (k : Int) (v : Int × Ct.Trie × Bool) : ((bput es k v).find? (fun p => p.1 == k)).map (·.2) = some v := by
  unfold bput
  split
  · rename_i h
    induction es with
    | nil => simp at h
    | cons p l ih =>
      simp only [List.map_cons]
      by_cases hp : p.1 == k
      · rw [if_pos hp, List.find?_cons_of_pos (by simp)]; rfl
      · rw [if_neg hp, List.find?_cons_of_neg (by simpa using hp)]
        exact ih (by simpa [hp] using h)
  · rename_i h
    have : es.find? (fun p => p.1 == k) = none := by
      rw [List.find?_eq_none]; intro p hp hq
      exact h (List.any_eq_true.2 ⟨p, hp, hq⟩)
    rw [List.find?_append, this]; simp
end Go.Proofs.YtifehcegnofpkaaGreatDoor
