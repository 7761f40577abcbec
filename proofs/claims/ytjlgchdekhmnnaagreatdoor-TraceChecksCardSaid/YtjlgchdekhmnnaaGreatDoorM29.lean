/- Parts of a proof: Sc, Ms. -/
import Derived.Test.YtjlgchdekhmnnaaGreatDoorM27
import Derived.Test.YtjlgchdekhmnnaaGreatDoorM28
import Derived.Laws.OwnMore
import Derived.RegionTactic
section
namespace Go.Ct
structure Op where
  kind : Int := 0
  handle : Int := 0
  key : ByteArray := .empty
  value : Nat := 0
  expect : Nat := 0
  deriving DecidableEq
structure Event where
  thread : Int := 0
  index : Int := 0
  ret : Bool := false
  result : Result := {}
  deriving DecidableEq
structure Th where
  ops : List Op := []
  index : Nat := 0
  present : Option Code := none
structure Mach where
  st : St := {}
  tab : Tab := {}
  threads : List Th := []
  history : List Event := []
  count : Nat := 0
  mask : Nat := 0
def Th.done (t : Th) : Bool := decide (t.ops.length ≤ t.index)
end Go.Ct
namespace Go.Proofs.YtjlgchdekhmnnaaGreatDoor
open Go.RowKit
def opC (o : Ct.Op) : List Value := [.int .i64 o.kind, .int .i64 o.handle, .string o.key, .int .u64 (o.value : Nat), .int .u64 (o.expect : Nat)]
def evC (e : Ct.Event) : List Value := [.int .i64 e.thread, .int .i64 e.index, .bool e.ret] ++ resCells e.result
def thC (ov : Value) (tb : Nat) (t : Ct.Th) : List Value := [ov, .int .i64 (t.index : Nat), .pointer (if t.present.isSome then some ⟨tb, 0, none⟩ else none)]
theorem opC_len (o : Ct.Op) : (opC o).length = 5 := rfl
theorem flat_len {α : Type} (c : Nat) : ∀ (rows : List (List α)), (∀ r ∈ rows, r.length = c) → rows.flatten.length = rows.length * c
  | [], _ => by simp
  | r :: l, h => by simp [flat_len c l (fun x hx => h x (by simp [hx])), h r (by simp), Nat.add_mul, Nat.add_comm]
theorem flat_get {α : Type} (c : Nat) : ∀ (rows : List (List α)) (i k : Nat), (∀ r ∈ rows, r.length = c) → k < c → rows.flatten[c * i + k]? = (rows[i]?).bind (·[k]?)
  | [], i, k, _, _ => by simp
  | r :: l, 0, k, h, hk => by
    have hr := h r (by simp)
    simp only [List.flatten_cons, Nat.mul_zero, Nat.zero_add]
    rw [List.getElem?_append_left (by omega)]; simp
  | r :: l, i + 1, k, h, hk => by
    have hr := h r (by simp)
    simp only [List.flatten_cons]
    rw [List.getElem?_append_right (by rw [hr, Nat.mul_add]; omega), hr, show c * (i + 1) + k - c = c * i + k by rw [Nat.mul_add]; omega, flat_get c l i k (fun x hx => h x (by simp [hx])) hk]
    simp
theorem flat_set {α : Type} (c : Nat) (rows : List (List α)) (i k : Nat) (v : α) (h : ∀ r ∈ rows, r.length = c) (hk : k < c) (row : List α) (hr : rows[i]? = some row) : rows.flatten.set (c * i + k) v = (rows.set i (row.set k v)).flatten := by
  have hi : i < rows.length := (List.getElem?_eq_some_iff.1 hr).1
  have hm : row ∈ rows := List.mem_of_getElem? hr
  have hc : 0 < c := by omega
  have h' : ∀ r ∈ rows.set i (row.set k v), r.length = c := fun r hr' => by
    rcases List.mem_or_eq_of_mem_set hr' with h1 | h1
    · exact h r h1
    · rw [h1, List.length_set]; exact h row hm
  apply List.ext_getElem?
  intro j
  obtain ⟨q, r, hr1, rfl⟩ : ∃ q r, r < c ∧ j = c * q + r := ⟨j / c, j % c, Nat.mod_lt _ hc, by rw [Nat.div_add_mod]⟩
  rw [List.getElem?_set, flat_get c _ q r h' hr1, flat_get c _ q r h hr1, List.getElem?_set]
  by_cases hq : i = q
  · subst hq
    by_cases hkr : k = r
    · subst hkr
      simp [hi, flat_len c rows h]
      have : k < row.length := by rw [h row hm]; exact hk
      rw [if_pos]
      · simp [this]
      · calc c * i + k < c * i + c := by omega
          _ = (i + 1) * c := by rw [Nat.add_mul, Nat.mul_comm]; simp
          _ ≤ rows.length * c := Nat.mul_le_mul_right _ hi
    · have : c * i + k ≠ c * i + r := by omega
      have hr' : rows[i] = row := by rw [List.getElem?_eq_getElem hi] at hr; injection hr
      simp [hi, hkr, hr']
  · have : c * i + k ≠ c * q + r := by
      intro e
      have e1 : (c * i + k) / c = i := by rw [Nat.mul_add_div hc, Nat.div_eq_of_lt hk, Nat.add_zero]
      have e2 : (c * q + r) / c = q := by rw [Nat.mul_add_div hc, Nat.div_eq_of_lt hr1, Nat.add_zero]
      rw [e, e2] at e1; exact hq e1.symm
    simp [this, hq]
def RowAt (N : Nat → Prop) (w : World) (v : Value) (n : Nat) (xs : List Value) : Prop :=
  (v = .slice none 0 0 ∧ n = 0 ∧ xs = []) ∨
  ∃ b off cap, v = .slice (some ⟨b, off, none⟩) n cap ∧ ¬ N b ∧ b < w.heap.size ∧ n ≤ cap ∧ cap ≤ maxLen ∧ ∀ j x, xs[j]? = some x → w.cell? ⟨b, off + j, none⟩ = some x
theorem RowAt.keep {N N' F : Nat → Prop} {w w' : World} {v : Value} {n : Nat} {xs : List Value} (h : RowAt N w v n xs) (hk : Keep F w w') (hF : ∀ k, F k → N k ∨ w.heap.size ≤ k) (hN : ∀ k, N' k → N k ∨ w.heap.size ≤ k) : RowAt N' w' v n xs := by
  rcases h with h | ⟨b, off, cap, hv, hb, hl, hc, hm, hcell⟩
  · exact .inl h
  · refine .inr ⟨b, off, cap, hv, fun hn => ?_, Nat.lt_of_lt_of_le hl hk.size, hc, hm, fun j x hj => ?_⟩
    · rcases hN b hn with h1 | h1
      · exact hb h1
      · omega
    · exact hk.cell (hcell j x hj) (fun hf => by rcases hF b hf with h1 | h1; exact hb h1; exact absurd hl (by omega))
structure MvN (A : Nat → Prop) (g : Ghost) (w : World) (A' : Nat → Prop) (g' : Ghost) (w' : World) : Prop where
  ex : ∃ F : Nat → Prop, Keep F w w' ∧ ∀ k, F k → A k ∨ w.heap.size ≤ k
  new : ∀ k, g'.N k → g.N k ∨ w.heap.size ≤ k
  old : ∀ k, g.N k → g'.N k
  own : ∀ k, A' k → A k ∨ w.heap.size ≤ k
theorem MvN.size {A A' : Nat → Prop} {g g' : Ghost} {w w' : World} (h : MvN A g w A' g' w') : w.heap.size ≤ w'.heap.size := by obtain ⟨F, hk, _⟩ := h.ex; exact hk.size
theorem MvN.trans {A A1 A2 : Nat → Prop} {g g1 g2 : Ghost} {w w1 w2 : World} (h : MvN A g w A1 g1 w1) (k : MvN A1 g1 w1 A2 g2 w2) : MvN A g w A2 g2 w2 := by
  obtain ⟨⟨F, hk, hF⟩, hn, ho, hw⟩ := h
  obtain ⟨⟨G, kk, kF⟩, kn, ko, kw⟩ := k
  have up : ∀ i, A1 i ∨ w1.heap.size ≤ i → A i ∨ w.heap.size ≤ i := fun i hi => hi.elim (hw i) (fun h2 => .inr (Nat.le_trans hk.size h2))
  refine ⟨⟨fun i => F i ∨ G i, (hk.mono (fun _ _ h => .inl h)).trans kk (fun i h => .inl (.inr h)), fun i hi => hi.elim (hF i) (fun h1 => up i (kF i h1))⟩, fun i hi => ?_, fun i hi => ko i (ho i hi), fun i hi => up i (kw i hi)⟩
  rcases kn i hi with h2 | h2
  · exact hn i h2
  · exact .inr (Nat.le_trans hk.size h2)
theorem MvN.below {A : Nat → Prop} {g : Ghost} {w w' : World} (hb : Below w.heap.size w w') : MvN A g w A g w' := ⟨⟨fun _ => False, Keep.below hb _, fun _ h => h.elim⟩, fun _ h => .inl h, fun _ h => h, fun _ h => .inl h⟩
theorem RowAt.below {N : Nat → Prop} {w w' : World} {v : Value} {n : Nat} {xs : List Value} (h : RowAt N w v n xs) (hb : Below w.heap.size w w') : RowAt N w' v n xs :=
  h.keep (Keep.below hb (fun _ => False)) (fun _ h => h.elim) (fun _ h => .inl h)
theorem RowAt.of_owns {N : Nat → Prop} {w : World} {base : Nat} {e : TypeId} {size : Nat} {v : Value} {n : Nat} {xs : List Value} (h : w.ownsRow base e size v n xs) (hN : ∀ k, v.ownBlock = some k → ¬ N k) : RowAt N w v n xs := by
  have h' := h
  rcases h.2 with ⟨rfl, rfl⟩ | ⟨g, cap, cur, rfl, hb, hg, hc, hm, hs, ht⟩
  · have : xs = [] := by have := h.1; simp at this; exact this
    exact .inl ⟨rfl, rfl, this⟩
  · refine .inr ⟨g, 0, cap, rfl, hN g rfl, (Array.getElem?_eq_some_iff.1 hg).1, hc, hm, fun j x hj => ?_⟩
    have hlt := (List.getElem?_eq_some_iff.1 hj).1
    rw [Nat.zero_add, h'.cellAt j (by rw [← h.1]; exact hlt)]; exact hj
abbrev OpsAt (N : Nat → Prop) (w : World) (v : Value) (os : List Ct.Op) : Prop := RowAt N w v os.length (os.map opC).flatten
def ThreadsAt (N : Nat → Prop) (w : World) (v : Value) (l : List (List Ct.Op)) : Prop := ∃ vs : List Value, vs.length = l.length ∧ RowAt N w v l.length vs ∧ ∀ (i : Nat) (ov : Value) (os : List Ct.Op), vs[i]? = some ov → l[i]? = some os → OpsAt N w ov os
theorem ThreadsAt.keep {N N' F : Nat → Prop} {w w' : World} {v : Value} {l : List (List Ct.Op)} (h : ThreadsAt N w v l) (hk : Keep F w w') (hF : ∀ k, F k → N k ∨ w.heap.size ≤ k) (hN : ∀ k, N' k → N k ∨ w.heap.size ≤ k) : ThreadsAt N' w' v l := by
  obtain ⟨vs, h1, h2, h3⟩ := h
  exact ⟨vs, h1, h2.keep hk hF hN, fun i ov os hi ho => (h3 i ov os hi ho).keep hk hF hN⟩
theorem ThreadsAt.below {N : Nat → Prop} {w w' : World} {v : Value} {l : List (List Ct.Op)} (h : ThreadsAt N w v l) (hb : Below w.heap.size w w') : ThreadsAt N w' v l :=
  h.keep (Keep.below hb (fun _ => False)) (fun _ h => h.elim) (fun _ h => .inl h)
abbrev PicksAt (N : Nat → Prop) (w : World) (v : Value) (pk : List Int) : Prop := RowAt N w v pk.length (pk.map (Value.int .i64))
theorem ops_len (os : List Ct.Op) : (os.map opC).flatten.length = os.length * 5 := by
  rw [flat_len 5 _ (by simp [opC_len])]; simp
theorem ops_get (os : List Ct.Op) (i k : Nat) (o : Ct.Op) (hi : os[i]? = some o) (hk : k < 5) : (os.map opC).flatten[5 * i + k]? = (opC o)[k]? := by
  rw [flat_get 5 _ i k (by simp [opC_len]) hk]; simp [hi]
theorem ops_one (os : List Ct.Op) : ∀ v ∈ (os.map opC).flatten, v.oneCell' = true := by
  intro v hv
  simp only [List.mem_flatten, List.mem_map] at hv
  obtain ⟨l, ⟨o, _, rfl⟩, hv⟩ := hv
  simp only [opC, List.mem_cons, List.not_mem_nil, or_false] at hv
  rcases hv with rfl | rfl | rfl | rfl | rfl <;> rfl
theorem evC_one (e : Ct.Event) : ∀ v ∈ evC e, v.oneCell' = true := by
  intro v hv
  simp only [evC, resCells, List.cons_append, List.nil_append, List.mem_cons, List.not_mem_nil, or_false] at hv
  rcases hv with rfl | rfl | rfl | rfl | rfl | rfl | rfl | rfl | rfl | rfl | rfl <;> rfl
inductive Role where
  | mach | table | ops | tries | iters | threads | hist | picks
  | task (i : Nat)
  deriving DecidableEq
def Own (g : Ghost) (role : Nat → Option Role) (k : Nat) : Prop := g.Foot k ∨ role k ≠ none
structure MFix where
  mb : Nat
  hb : Nat
  m1 : Nat
  m2 : Nat
  m3 : Nat
  mask : Nat
def thRows (ov : Nat → Value) (tb : Nat → Nat) (ths : List Ct.Th) : List (List Value) := ths.mapIdx fun i t => thC (ov i) (tb i) t
theorem thRows_len (ov : Nat → Value) (tb : Nat → Nat) (ths : List Ct.Th) : (thRows ov tb ths).length = ths.length := by simp [thRows]
theorem thRows_three (ov : Nat → Value) (tb : Nat → Nat) (ths : List Ct.Th) : ∀ r ∈ thRows ov tb ths, r.length = 3 := by
  intro r hr
  simp only [thRows, List.mem_mapIdx] at hr
  obtain ⟨i, _, rfl⟩ := hr
  rfl
theorem thRows_get (ov : Nat → Value) (tb : Nat → Nat) (ths : List Ct.Th) (i : Nat) : (thRows ov tb ths)[i]? = ths[i]?.map (thC (ov i) (tb i)) := by simp [thRows]
structure Body (X : Nat → Prop) (g : Ghost) (w : World) (m : MFix) (role : Nat → Option Role) (vth vpk vhi : Value) (ov : Nat → Value) (tb : Nat → Nat) (pk : List Int) (M : Ct.Mach) : Prop where
  blk : w.heap[m.mb]? = some (.cells #[.pointer (some ⟨g.a, 0, none⟩), .pointer (some ⟨m.hb, 0, none⟩), vth, vpk, vhi, .int .i64 (M.count : Nat)] 125 (0, 0))
  ths : w.ownsRow 0 128 3 vth M.threads.length (thRows ov tb M.threads).flatten
  hist : w.ownsRow 0 132 11 vhi M.history.length (M.history.map evC).flatten
  picks : w.ownsRow 0 129 1 vpk pk.length (pk.map (Value.int .i8))
  ops : ∀ i t, M.threads[i]? = some t → OpsAt g.N w (ov i) t.ops
  task : ∀ i t c, ¬ X i → M.threads[i]? = some t → t.present = some c → (∃ n O, TaskAt O g w (tb i) c n ∧ n ≤ M.count ∧ ∀ k, O k → role k = some (.task i)) ∧ role (tb i) = some (.task i)
  rmb : role m.mb = some .mach
  rhb : role m.hb = some .table
  rm1 : role m.m1 = some .ops
  rm2 : role m.m2 = some .tries
  rm3 : role m.m3 = some .iters
  rth : ∀ k, vth.ownBlock = some k → role k = some .threads
  rhi : ∀ k, vhi.ownBlock = some k → role k = some .hist
  rpk : ∀ k, vpk.ownBlock = some k → role k = some .picks
  rN : ∀ k r, role k = some r → g.N k ∧ ¬ g.Foot k ∧ k < w.heap.size
def Other (X : Nat → Prop) (g : Ghost) (role : Nat → Option Role) (k : Nat) : Prop := g.Foot k ∨ role k = some .ops ∨ role k = some .tries ∨ role k = some .iters ∨ ∃ i, X i ∧ role k = some (.task i)
theorem Body.keep {X F : Nat → Prop} {g g' : Ghost} {w w' : World} {m : MFix} {role : Nat → Option Role} {vth vpk vhi : Value} {ov : Nat → Value} {tb : Nat → Nat} {pk : List Int} {M : Ct.Mach} {s' : Ct.St} {T' : Ct.Tab}
    (h : Body X g w m role vth vpk vhi ov tb pk M) (hfN : ∀ k, F k → g.Foot k → g.N k) (hk : Keep F w w') (hF : ∀ k, F k → Other X g role k ∨ w.heap.size ≤ k) (ea : g'.a = g.a) (new : ∀ k, g'.N k → g.N k ∨ w.heap.size ≤ k) (old : ∀ k, g.N k → g'.N k) (foot : ∀ k, g'.Foot k → g.Foot k ∨ w.heap.size ≤ k) :
    Body X g' w' m role vth vpk vhi ov tb pk { M with st := s', tab := T' } := by
  have hN : ∀ k, F k → g.N k ∨ w.heap.size ≤ k := fun k hf => by
    rcases hF k hf with (h1 | h1 | h1 | h1 | ⟨i, _, h1⟩) | h1
    · exact .inl (hfN k hf h1)
    · exact .inl (h.rN k _ h1).1
    · exact .inl (h.rN k _ h1).1
    · exact .inl (h.rN k _ h1).1
    · exact .inl (h.rN k _ h1).1
    · exact .inr h1
  have ne : ∀ k r, role k = some r → r ≠ .ops → r ≠ .tries → r ≠ .iters → (∀ i, X i → r ≠ .task i) → ¬ F k := fun k r hr n1 n2 n3 n4 hf => by
    have hh := h.rN k r hr
    rcases hF k hf with (h1 | h1 | h1 | h1 | ⟨i, hi, h1⟩) | h1
    · exact hh.2.1 h1
    · rw [hr] at h1; injection h1 with h1; exact n1 h1
    · rw [hr] at h1; injection h1 with h1; exact n2 h1
    · rw [hr] at h1; injection h1 with h1; exact n3 h1
    · rw [hr] at h1; injection h1 with h1; exact n4 i hi h1
    · have := hh.2.2; omega
  refine ⟨?_, ?_, ?_, ?_, fun i t ht => (h.ops i t ht).keep hk hN new, fun i t c hx ht hc => ?_, h.rmb, h.rhb, h.rm1, h.rm2, h.rm3, h.rth, h.rhi, h.rpk, fun k r hr => ?_⟩
  · rw [hk.block _ (h.rN _ _ h.rmb).2.2 (ne _ _ h.rmb (by decide) (by decide) (by decide) (fun _ _ e => by cases e)), ea]; exact h.blk
  · exact ownsRow_keep h.ths hk (fun k hv => ne k _ (h.rth k hv) (by decide) (by decide) (by decide) (fun _ _ e => by cases e))
  · exact ownsRow_keep h.hist hk (fun k hv => ne k _ (h.rhi k hv) (by decide) (by decide) (by decide) (fun _ _ e => by cases e))
  · exact ownsRow_keep h.picks hk (fun k hv => ne k _ (h.rpk k hv) (by decide) (by decide) (by decide) (fun _ _ e => by cases e))
  · obtain ⟨⟨n, O, h1, h2, h4⟩, h3⟩ := h.task i t c hx ht hc
    have nt : ∀ k, role k = some (.task i) → ¬ F k := fun k hk' => ne _ _ hk' (fun e => by cases e) (fun e => by cases e) (fun e => by cases e) (fun j hj e => by injection e with e; exact hx (e ▸ hj))
    refine ⟨⟨n, O, h1.mv hk (nt _ h3) hN (fun k hf => .inl (fun ho => nt _ (h4 k ho) hf)) ea new old (fun k hf => (foot k hf).imp id (fun hl => ⟨hl, fun ho => by have := (h.rN k _ (h4 k ho)).2.2; omega⟩)), h2, h4⟩, h3⟩
  · have := h.rN k r hr
    refine ⟨old k this.1, fun hf => (foot k hf).elim this.2.1 (fun h1 => by omega), Nat.lt_of_lt_of_le this.2.2 hk.size⟩
theorem Body.below {X : Nat → Prop} {g : Ghost} {w w' : World} {m : MFix} {role : Nat → Option Role} {vth vpk vhi : Value} {ov : Nat → Value} {tb : Nat → Nat} {pk : List Int} {M : Ct.Mach} (h : Body X g w m role vth vpk vhi ov tb pk M) (hb : Below w.heap.size w w') : Body X g w' m role vth vpk vhi ov tb pk M :=
  h.keep (F := fun _ => False) (s' := M.st) (T' := M.tab) (fun _ h => h.elim) (Keep.below hb _) (fun _ h => h.elim) rfl (fun _ h => .inl h) (fun _ h => h) (fun _ h => .inl h)
theorem Below.keep {B : Nat} {w W W' : World} (h : Below B w W) (hB : B ≤ w.heap.size) (hk : Keep (fun k => B ≤ k) W W') : Below B w W' :=
  ⟨hk.os.trans h.os, hk.tape.trans h.tape, hk.output.trans h.output, Nat.le_trans h.size hk.size, fun k hl => (hk.block k (by have := h.size; omega) (by omega)).trans (h.block k hl)⟩
theorem Below.weak {B B' : Nat} {w W : World} (h : Below B w W) (hB : B' ≤ B) : Below B' w W := ⟨h.os, h.tape, h.output, h.size, fun k hk => h.block k (by omega)⟩
theorem cell_below {w w' : World} {a : Addr} {v : Value} (h : w.cell? a = some v) (hb : Below w.heap.size w w') : w'.cell? a = some v :=
  (World.cell?_of_block (hb.block a.block (World.block_lt_of_cell? _ _ h))).trans h
theorem cell_alloc {w : World} {a : Addr} {v : Value} (h : w.cell? a = some v) : ∀ o, (w.alloc o).cell? a = some v := fun o => cell_below h ((Below.refl _ _).alloc (Nat.le_refl _) o)
end Go.Proofs.YtjlgchdekhmnnaaGreatDoor
end
section
namespace Go.Proofs.YtjlgchdekhmnnaaGreatDoor
open Go.RowKit
set_option linter.unusedVariables false
set_option maxRecDepth 100000 in
theorem thDone_any (w : World) (b off ix len cap : Nat) (p : Option Addr) (h0 : w.cell? ⟨b, off, none⟩ = some (.slice p len cap)) (h1 : w.cell? ⟨b, off + 1, none⟩ = some (.int .i64 (ix : Nat))) :
    Calls Tryz.prog 59 #[.pointer (some ⟨b, off, none⟩)] w fun e w' => e = .returned (.bool (decide (len ≤ ix))) ∧ Below w.heap.size w w' := by
  go_enter Tryz.func59, Tryz.ntmps59
  go_wp2_with fail
  go_region
  all_goals
    go_wp2_with fail
    go_ret
    exact ⟨rfl, (Below.refl _ _).drew⟩
def accC : Ct.Code → List Value
  | .done _ => [.int .i64 0, .int .i64 0, .int .i64 0, .int .i64 0]
  | .load c _ => [.int .i64 1, .int .i64 c, .int .i64 0, .int .i64 0]
  | .cas c o n _ => [.int .i64 2, .int .i64 c, .int .i64 o, .int .i64 n]
theorem accC_len (c : Ct.Code) : (accC c).length = 4 := by cases c <;> rfl
theorem accC_one (c : Ct.Code) : (accC c).toArray.all (·.oneCell') = true := by cases c <;> simp [accC, Value.oneCell']
theorem CodeRep.acc {sv : Value} {N O : Nat → Prop} {w : World} {cs : List Value} {c : Ct.Code} (h : CodeRep sv N O w cs c) : cs.take 4 = accC c := by
  cases c with
  | done r => rw [h]; rfl
  | load c k => obtain ⟨f, e, _⟩ := h; rw [e]; rfl
  | cas c o x k => obtain ⟨f, e, _⟩ := h; rw [e]; rfl
theorem info_Access_size : (Tryz.prog.info? 73).map (·.size) = some 4 := by kernel_rfl
def zeroAcc : Array Value := #[.int .i64 0, .int .i64 0, .int .i64 0, .int .i64 0]
theorem zeroAcc_one : zeroAcc.all (·.oneCell') = true := by simp [zeroAcc, Value.oneCell']
theorem TaskBlk.acc {w : World} {tb : Nat} {sv : Value} {cs : List Value} {n : Nat} {busy : Bool} (h : TaskBlk w tb sv cs n busy) : w.rangeAt tb 1 (cs.take 4) := fun j v hv => by
  have hj := (List.getElem?_eq_some_iff.1 hv).1
  simp only [List.length_take] at hj
  rw [h.code j (by omega), ← hv, List.getElem?_take_of_lt (by omega)]
theorem results_row_tmp {P : Program} {fn : Func} {p u : Tmp} {ty : TypeId} (h : fn.results = #[.cell p ty, .tmp u]) (tmps : Array Value) (w : World) (g : Nat) (t : TypeId) (cs : Array Value) (fr : Nat × Nat) (d : TypeDesc)
    (hp : tmps.getD p undef = .pointer (some ⟨g, 0, none⟩)) (hg : w.heap[g]? = some (.cells cs t fr))
    (hu : P.underlying ty = some d) (hd : (match d with | .struct _ | .array _ _ => true | _ => false) = true) (hi : (P.info? ty).map (·.size) = some cs.size) :
    (results fn tmps).run P w = .ok (.tuple #[.agg cs, tmps.getD u undef]) w := by
  have hp' : tmps[p]?.getD undef = .pointer (some ⟨g, 0, none⟩) := by simpa using hp
  simp [results, h, hp', asAddr, run_loadVar_row w g t ty cs fr d hg hu hd hi, Result.andThen]
theorem results_tmp_row_tmp {P : Program} {fn : Func} {x p u : Tmp} {ty : TypeId} (h : fn.results = #[.tmp x, .cell p ty, .tmp u]) (tmps : Array Value) (w : World) (g : Nat) (t : TypeId) (cs : Array Value) (fr : Nat × Nat) (d : TypeDesc)
    (hp : tmps.getD p undef = .pointer (some ⟨g, 0, none⟩)) (hg : w.heap[g]? = some (.cells cs t fr))
    (hu : P.underlying ty = some d) (hd : (match d with | .struct _ | .array _ _ => true | _ => false) = true) (hi : (P.info? ty).map (·.size) = some cs.size) :
    (results fn tmps).run P w = .ok (.tuple #[tmps.getD x undef, .agg cs, tmps.getD u undef]) w := by
  have hp' : tmps[p]?.getD undef = .pointer (some ⟨g, 0, none⟩) := by simpa using hp
  simp [results, h, hp', asAddr, run_loadVar_row w g t ty cs fr d hg hu hd hi, Result.andThen]
set_option maxRecDepth 100000 in
set_option maxHeartbeats 800000 in
theorem taskNext_any (w : World) (tb : Nat) (g : Ghost) (c : Ct.Code) (n : Nat) {O : Nat → Prop} (h : TaskAt O g w tb c n) :
    Calls Tryz.prog 96 #[.pointer (some ⟨tb, 0, none⟩)] w fun e w' => e = .returned (.tuple #[.agg (accC c).toArray, .bool (!Code.isDone c)]) ∧ Below w.heap.size w w' := by
  obtain ⟨⟨cs, hT, hC⟩, _⟩ := h
  have hT' : TaskBlk (w.alloc (.cells zeroAcc 73)) tb g.sv cs n false := ⟨heap_alloc_of hT.at_ _, hT.len⟩
  have hdn := done_any (w.alloc (.cells zeroAcc 73)) tb g cs n false c hT' (hC.keep (Keep.alloc (fun _ => False) _ _) (fun _ h => h.elim) (fun _ h => .inl h) (fun _ h => h.elim))
  have HD := Lib.hid hdn
  have hrg := hT'.acc
  rw [hC.acc] at hrg
  have HRG := Lib.hid hrg
  have HA := Lib.hid (heap_alloc_at w (.cells zeroAcc 73))
  have HB := Lib.hid (below_result w zeroAcc (accC c).toArray 73)
  have HL : Hid ((Tryz.prog.info? 73).map (·.size) = some (accC c).length) := by rw [accC_len]; exact info_Access_size
  have HL' : Hid ((Tryz.prog.info? 73).map (·.size) = some (accC c).toArray.size) := by rw [List.size_toArray, accC_len]; exact info_Access_size
  have HS : Hid (zeroAcc.size = (accC c).toArray.size) := by show zeroAcc.size = _; simp [accC_len, zeroAcc]
  clear hT hC hdn hT' hrg
  cases hd : Code.isDone c with
  | true =>
    have ec : accC c = [.int .i64 0, .int .i64 0, .int .i64 0, .int .i64 0] := by cases c <;> first | rfl | cases hd
    rw [hd] at HD
    clear HRG
    go_enter Tryz.func96, Tryz.ntmps96
    go_wp2_with (first
      | (go_at_call 48; refine HD.out.mono ?_; rintro e w' ⟨rfl, rfl⟩)
      | (refine wpList_store_row rfl 73 (.tmp 2) (.tmp 6) rfl w.heap.size zeroAcc rfl rfl 73 zeroAcc HA.out info_Access_size rfl zeroAcc_one ?_))
    refine bodyPost_ret (v := .tuple #[.agg zeroAcc, .bool false]) (results_row_tmp Tryz.results96 _ _ w.heap.size 73 zeroAcc (0, 0) _ rfl (setRow_heap _ w.heap.size _ _ _ _ HA.out) Tryz.underlying73 rfl info_Access_size) rfl ?_
    rw [ec]
    exact ⟨rfl, by have := HB.out; rw [ec] at this; exact this⟩
  | false =>
    rw [hd] at HD
    go_enter Tryz.func96, Tryz.ntmps96
    go_wp2_with (first
      | (go_at_call 48; refine HD.out.mono ?_; rintro e w' ⟨rfl, rfl⟩)
      | (refine wpList_load_mid rfl 73 (.tmp 10) rfl tb 1 rfl (accC c) _ HRG.out Tryz.underlying73 rfl HL.out ?_)
      | (refine wpList_store_row rfl 73 (.tmp 2) (.tmp 11) rfl w.heap.size (accC c).toArray rfl rfl 73 zeroAcc HA.out HL'.out HS.out (accC_one c) ?_))
    refine bodyPost_ret (v := .tuple #[.agg (accC c).toArray, .bool true]) (results_row_tmp Tryz.results96 _ _ w.heap.size 73 _ (0, 0) _ rfl (setRow_heap _ w.heap.size _ _ _ _ HA.out) Tryz.underlying73 rfl HL'.out) rfl ?_
    exact ⟨rfl, HB.out⟩
theorem Body.cell {X : Nat → Prop} {g : Ghost} {w : World} {m : MFix} {role : Nat → Option Role} {vth vpk vhi : Value} {ov : Nat → Value} {tb : Nat → Nat} {pk : List Int} {M : Ct.Mach} (h : Body X g w m role vth vpk vhi ov tb pk M) (i : Nat) : w.cell? ⟨m.mb, i, none⟩ = (#[.pointer (some ⟨g.a, 0, none⟩), .pointer (some ⟨m.hb, 0, none⟩), vth, vpk, vhi, .int .i64 (M.count : Nat)] : Array Value)[i]? := cell_at h.blk i
theorem Body.free {X : Nat → Prop} {g : Ghost} {w : World} {m : MFix} {role : Nat → Option Role} {vth vpk vhi : Value} {ov : Nat → Value} {tb : Nat → Nat} {pk : List Int} {M : Ct.Mach} (h : Body X g w m role vth vpk vhi ov tb pk M) (i : Nat) : w.frozen? ⟨m.mb, i, none⟩ = false := free_at h.blk i
theorem Body.len {X : Nat → Prop} {g : Ghost} {w : World} {m : MFix} {role : Nat → Option Role} {vth vpk vhi : Value} {ov : Nat → Value} {tb : Nat → Nat} {pk : List Int} {M : Ct.Mach} (h : Body X g w m role vth vpk vhi ov tb pk M) : ∃ p cap, vth = .slice p M.threads.length cap := by
  rcases h.ths.2 with ⟨e, e2⟩ | ⟨g, cap, cur, e, _⟩
  · exact ⟨none, 0, by rw [e, e2]⟩
  · exact ⟨_, _, e⟩
theorem Body.thread {X : Nat → Prop} {g : Ghost} {w : World} {m : MFix} {role : Nat → Option Role} {vth vpk vhi : Value} {ov : Nat → Value} {tb : Nat → Nat} {pk : List Int} {M : Ct.Mach} (h : Body X g w m role vth vpk vhi ov tb pk M) (i : Nat) (t : Ct.Th) (hi : M.threads[i]? = some t) :
    ∃ gt cap, vth = .slice (some ⟨gt, 0, none⟩) M.threads.length cap ∧ role gt = some .threads ∧ (∀ k, k < 3 → w.cell? ⟨gt, i * 3 + k, none⟩ = (thC (ov i) (tb i) t)[k]?) ∧ ∀ k, w.frozen? ⟨gt, k, none⟩ = false := by
  have hlt := (List.getElem?_eq_some_iff.1 hi).1
  have h0 := h.ths
  rcases h.ths.2 with ⟨e, e2⟩ | ⟨gt, cap, cur, e, _⟩
  · omega
  · subst e
    refine ⟨gt, cap, rfl, h.rth gt rfl, fun k hk => ?_, fun k => h0.frozenAt k⟩
    rw [h0.cellAt (i * 3 + k) (by omega), Nat.mul_comm i 3, flat_get 3 _ i k (thRows_three ov tb _) hk, thRows_get, hi]; rfl
set_option maxRecDepth 100000 in
set_option maxHeartbeats 800000 in
theorem busy_some (g : Ghost) (w : World) (m : MFix) (role : Nat → Option Role) (vth vpk vhi : Value) (ov : Nat → Value) (tb : Nat → Nat) (pk : List Int) (M : Ct.Mach) (i : Nat) (t : Ct.Th) (c : Ct.Code) (h : Body (fun _ => False) g w m role vth vpk vhi ov tb pk M) (hi : M.threads[i]? = some t) (hc : t.present = some c) :
    Calls Tryz.prog 70 #[.pointer (some ⟨m.mb, 0, none⟩), .int .i64 (i : Nat)] w fun e w' => e = .returned (.tuple #[.int .i64 (t.index : Nat), .agg (accC c).toArray, .bool true]) ∧ Below w.heap.size w w' := by
  obtain ⟨gt, cap, rfl, hr, hcell, hfree⟩ := h.thread i t hi
  have hlt := (List.getElem?_eq_some_iff.1 hi).1
  obtain ⟨⟨n, O, hT, _⟩, _⟩ := h.task i t c (fun h => h) hi hc
  have c2 := h.cell 2
  have t0 := hcell 0 (by decide); have t1 := hcell 1 (by decide); have t2 := hcell 2 (by decide)
  simp only [thC, hc, List.getElem?_cons_zero, List.getElem?_cons_succ, Option.isSome_some, if_true] at c2 t0 t1 t2
  simp at c2
  have q1 : ¬ ((i : Int) < 0) := by omega
  have q2 : (i : Int) < (M.threads.length : Int) := by omega
  have q3 : i < M.threads.length := hlt
  have q4 : decide (M.threads.length ≤ i) = false := by simp; omega
  generalize M.threads.length = len at *
  simp only [Nat.add_zero] at t0
  have p2 := cell_alloc c2; have r0 := cell_alloc t0; have r1 := cell_alloc t1; have r2 := cell_alloc t2
  have Q4 := Lib.hid (World.block_lt_of_cell? _ _ c2); have Q5 := Lib.hid (World.block_lt_of_cell? _ _ t1)
  have HT := Lib.hid hT
  clear h hcell hfree hT hlt hi hc hr c2 t0 t1 t2
  go_enter Tryz.func70, Tryz.ntmps70
  go_wp2_with fail
  refine (taskNext_any _ (tb i) g c n (HT.out.below ((Below.refl _ _).alloc (Nat.le_refl _) _))).mono ?_
  rintro e w1 ⟨rfl, hb1⟩
  obtain ⟨a0, a1, a2, a3, ea⟩ : ∃ a0 a1 a2 a3 : Int, accC c = [.int .i64 a0, .int .i64 a1, .int .i64 a2, .int .i64 a3] := by cases c <;> exact ⟨_, _, _, _, rfl⟩
  have HA := Lib.hid (seen_below (heap_alloc_at w (.cells zeroAcc 73)) hb1)
  have HB1 := Lib.hid hb1
  have p2 := cell_below (p2 _) hb1; have r1 := cell_below (r1 _) hb1
  clear hb1
  rw [ea]
  go_wp2_with (refine wpList_store_row rfl 73 (.tmp 5) (.tmp 40) rfl w.heap.size #[.int .i64 a0, .int .i64 a1, .int .i64 a2, .int .i64 a3] rfl rfl 73 zeroAcc HA.out info_Access_size rfl (by simp [Value.oneCell']) ?_)
  obtain ⟨W2, hW2⟩ : ∃ W, w1.setRow w.heap.size #[.int .i64 a0, .int .i64 a1, .int .i64 a2, .int .i64 a3] = W := ⟨_, rfl⟩
  refine code_world hW2 ?_
  have g2 : W2.heap[w.heap.size]? = some (.cells #[.int .i64 a0, .int .i64 a1, .int .i64 a2, .int .i64 a3] 73 (0, 0)) := by rw [← hW2]; exact setRow_heap _ _ _ _ _ _ HA.out
  have kb : Keep (fun k => k = w.heap.size) w1 W2 := by rw [← hW2]; exact Keep.setRow w1 _ _ rfl
  have hB2 : Below w.heap.size w W2 := Below.keep (Below.keep ((Below.refl _ _).alloc (Nat.le_refl _) _) (Nat.le_refl _) (Keep.below HB1.out (fun k => w.heap.size ≤ k))) (Nat.le_refl _) (kb.mono (fun k _ e => by omega))
  have s2 := kb.cell p2 (fun e => by have := Q4.out; simp at this e; omega); have s1 := kb.cell r1 (fun e => by have := Q5.out; simp at this e; omega)
  have d0 := cell_at g2 0; have d1 := cell_at g2 1; have d2 := cell_at g2 2; have d3 := cell_at g2 3; have fr := free_at g2
  simp only [List.getElem?_toArray, List.getElem?_cons_zero, List.getElem?_cons_succ] at d0 d1 d2 d3
  have HB2 := Lib.hid hB2; have G2 := Lib.hid g2
  clear hB2 g2 kb p2 r1 hW2
  go_region
  all_goals
    go_wp2_with fail
    have x0 := heap_setCell_at W2.drew w.heap.size 0 (.int .i64 a0) _ _ _ G2.out
    have x1 := heap_setCell_at _ w.heap.size 1 (.int .i64 a1) _ _ _ x0
    have x2 := heap_setCell_at _ w.heap.size 2 (.int .i64 a2) _ _ _ x1
    have x3 := heap_setCell_at _ w.heap.size 3 (.int .i64 a3) _ _ _ x2
    refine bodyPost_ret (v := .tuple #[.int .i64 (t.index : Nat), .agg #[.int .i64 a0, .int .i64 a1, .int .i64 a2, .int .i64 a3], .bool true]) (results_tmp_row_tmp Tryz.results70 _ _ w.heap.size 73 _ (0, 0) _ rfl x3 Tryz.underlying73 rfl info_Access_size) rfl ?_
    refine ⟨by rw [ea], ?_⟩
    exact Below.keep (Below.drew HB2.out) (Nat.le_refl _) ((((Keep.setCell (F := fun k => w.heap.size ≤ k) W2.drew ⟨w.heap.size, 0, none⟩ _ (Nat.le_refl _)).trans (Keep.setCell (F := fun k => w.heap.size ≤ k) _ ⟨w.heap.size, 1, none⟩ _ (Nat.le_refl _)) (fun _ h => .inl h)).trans (Keep.setCell (F := fun k => w.heap.size ≤ k) _ ⟨w.heap.size, 2, none⟩ _ (Nat.le_refl _)) (fun _ h => .inl h)).trans (Keep.setCell (F := fun k => w.heap.size ≤ k) _ ⟨w.heap.size, 3, none⟩ _ (Nat.le_refl _)) (fun _ h => .inl h))
end Go.Proofs.YtjlgchdekhmnnaaGreatDoor
end
