/- Parts of a proof: Nw. -/
import Derived.Test.YtjlgchdekhmnnaaGreatDoorM38
import Derived.Test.YtjlgchdekhmnnaaGreatDoorM34
import Derived.Deep.RegionHeld3
section
namespace Go.Proofs.YtjlgchdekhmnnaaGreatDoor
open Go.RowKit
set_option linter.unusedVariables false
def pickOf (n : Nat) (p : Int) : Int := if 0 ≤ p ∧ p < n then p else -1
def newTh (os : List Ct.Op) : Ct.Th := { ops := os }
def newM (mask : Nat) (l : List (List Ct.Op)) : Ct.Mach := { st := (Ct.createC {}).2, tab := { tries := [(0, (Ct.createC {}).1)] }, threads := l.map newTh, mask := mask }
structure MachZ (B : Nat) (w0 w : World) (m : MFix) (vpk : Value) (pk : List Int) (M : Ct.Mach) : Prop where
  ex : ∃ g role vth vhi ov tb, MachX (fun _ => False) g w m role vth vpk vhi ov tb pk M ∧ (∀ k, Own g role k → B ≤ k) ∧ ∀ k, k < B → g.N k
  keep : Keep (fun k => B ≤ k) w0 w
  le : B ≤ w.heap.size
theorem MachZ.below {B : Nat} {w0 w w' : World} {m : MFix} {vpk : Value} {pk : List Int} {M : Ct.Mach} (h : MachZ B w0 w m vpk pk M) (hb : Below w.heap.size w w') : MachZ B w0 w' m vpk pk M := by
  obtain ⟨⟨g, role, vth, vhi, ov, tb, h1, h2⟩, h3, h4⟩ := h
  exact ⟨⟨g, role, vth, vhi, ov, tb, h1.below hb, h2⟩, h3.trans (Keep.below hb (fun _ => False)) (fun _ h => h.elim), Nat.le_trans h4 hb.size⟩
theorem MachZ.toBelow {w0 w : World} {m : MFix} {vpk : Value} {pk : List Int} {M : Ct.Mach} (h : MachZ w0.heap.size w0 w m vpk pk M) : Below w0.heap.size w0 w := h.keep.toBelow _ (Nat.le_refl _) (fun k hk => hk)
theorem MachX.init {g : Ghost} {w : World} {s : Ct.St} {hb m1 m2 m3 mask : Nat} {T : Ct.Tab} (ha : ArenaAt g w s) (ht : TabAt g w hb m1 m2 m3 mask T) :
    ∃ role, MachX (fun _ => False) (g.withN fun k => g.N k ∨ k = w.heap.size) (w.alloc (.cells #[.pointer (some ⟨g.a, 0, none⟩), .pointer (some ⟨hb, 0, none⟩), .slice none 0 0, .slice none 0 0, .slice none 0 0, .int .i64 0] 125)) ⟨w.heap.size, hb, m1, m2, m3, mask⟩ role (.slice none 0 0) (.slice none 0 0) (.slice none 0 0) (fun _ => .slice none 0 0) (fun _ => 0) [] { st := s, tab := T, mask := mask } ∧ ∀ k, role k ≠ none → k = w.heap.size ∨ k = hb ∨ k = m1 ∨ k = m2 ∨ k = m3 := by
  have hbl := (Below.refl w.heap.size w).alloc (Nat.le_refl _) (.cells #[.pointer (some ⟨g.a, 0, none⟩), .pointer (some ⟨hb, 0, none⟩), .slice none 0 0, .slice none 0 0, .slice none 0 0, .int .i64 0] 125)
  have hz : w.heap.size < (w.alloc (.cells #[.pointer (some ⟨g.a, 0, none⟩), .pointer (some ⟨hb, 0, none⟩), .slice none 0 0, .slice none 0 0, .slice none 0 0, .int .i64 0] 125)).heap.size := by simp
  have hat := heap_alloc_at w (.cells #[.pointer (some ⟨g.a, 0, none⟩), .pointer (some ⟨hb, 0, none⟩), .slice none 0 0, .slice none 0 0, .slice none 0 0, .int .i64 0] 125)
  obtain ⟨W, hW⟩ : ∃ W, w.alloc (.cells #[.pointer (some ⟨g.a, 0, none⟩), .pointer (some ⟨hb, 0, none⟩), .slice none 0 0, .slice none 0 0, .slice none 0 0, .int .i64 0] 125) = W := ⟨_, rfl⟩
  rw [hW] at hbl hz hat ⊢
  have new : ∀ k, g.N k ∨ k = w.heap.size → g.N k ∨ w.heap.size ≤ k := fun k hk => hk.imp id (fun e => by omega)
  have nlt := ha.nlt
  have l0 := nlt _ ht.inN.1; have l1 := nlt _ ht.inN.2.1; have l2 := nlt _ ht.inN.2.2.1; have l3 := nlt _ ht.inN.2.2.2
  have nm := ht.nmap
  have ne := ht.ne
  refine ⟨fun k => if k = w.heap.size then some .mach else if k = hb then some .table else if k = m1 then some .ops else if k = m2 then some .tries else if k = m3 then some .iters else none, ⟨?_, ?_, ?_, rfl⟩, fun k hk => ?_⟩
  · exact ha.keep (Keep.below hbl (fun _ => False)) (fun _ h => h.elim) (fun _ h => h.elim) new (fun _ h => .inl h) (fun k hk => hk.elim (fun h1 => Nat.lt_of_lt_of_le (nlt k h1) hbl.size) (fun e => e ▸ hz))
  · exact ht.keep (Keep.below hbl (fun _ => False)) ⟨fun h => h, fun h => h, fun h => h, fun h => h⟩ rfl (fun _ h => .inl h) (fun _ h => .inl h)
  · refine ⟨hat, World.ownsRow_nil _ _ _ _, World.ownsRow_nil _ _ _ _, World.ownsRow_nil _ _ _ _, fun i t h => (by simp at h), fun i t c _ h => (by simp at h), if_pos rfl, ?_, ?_, ?_, ?_, fun k h => (by cases h), fun k h => (by cases h), fun k h => (by cases h), fun k r hr => ?_⟩
    · show (if hb = w.heap.size then _ else _) = _
      rw [if_neg (show ¬ hb = w.heap.size by omega), if_pos rfl]
    · show (if m1 = w.heap.size then _ else _) = _
      rw [if_neg (show ¬ m1 = w.heap.size by omega), if_neg (show ¬ m1 = hb by omega), if_pos rfl]
    · show (if m2 = w.heap.size then _ else _) = _
      rw [if_neg (show ¬ m2 = w.heap.size by omega), if_neg (show ¬ m2 = hb by omega), if_neg (show ¬ m2 = m1 by omega), if_pos rfl]
    · show (if m3 = w.heap.size then _ else _) = _
      rw [if_neg (show ¬ m3 = w.heap.size by omega), if_neg (show ¬ m3 = hb by omega), if_neg (show ¬ m3 = m1 by omega), if_neg (show ¬ m3 = m2 by omega), if_pos rfl]
    · replace hr : (if k = w.heap.size then some Role.mach else if k = hb then some Role.table else if k = m1 then some .ops else if k = m2 then some .tries else if k = m3 then some .iters else none) = some r := hr
      show (g.N k ∨ k = w.heap.size) ∧ ¬ g.Foot k ∧ _
      split at hr
      · rename_i e; subst e
        exact ⟨.inr rfl, fun hf => absurd (nlt _ (ha.foot _ hf)) (by omega), hz⟩
      · split at hr
        · rename_i e; subst e; exact ⟨.inl ht.inN.1, ht.out.1, by omega⟩
        · split at hr
          · rename_i e; subst e; exact ⟨.inl ht.inN.2.1, ht.out.2.1, by omega⟩
          · split at hr
            · rename_i e; subst e; exact ⟨.inl ht.inN.2.2.1, ht.out.2.2.1, by omega⟩
            · split at hr
              · rename_i e; subst e; exact ⟨.inl ht.inN.2.2.2, ht.out.2.2.2, by omega⟩
              · cases hr
  · dsimp only at hk
    split at hk
    · exact .inl ‹_›
    · split at hk
      · exact .inr (.inl ‹_›)
      · split at hk
        · exact .inr (.inr (.inl ‹_›))
        · split at hk
          · exact .inr (.inr (.inr (.inl ‹_›)))
          · split at hk
            · exact .inr (.inr (.inr (.inr ‹_›)))
            · exact absurd rfl hk
def NewMRes (w : World) (l : List (List Ct.Op)) (pk : List Int) (mask : Nat) (e : Ending) (w' : World) : Prop :=
  if checkC l pk.length = 0 then ∃ m vpk, e = .returned (.tuple #[.pointer (some ⟨m.mb, 0, none⟩), .int .i64 0]) ∧ m.mask = mask ∧ MachZ w.heap.size w w' m vpk (pk.map (pickOf l.length)) (newM mask l)
  else e = .returned (.tuple #[.pointer none, .int .i64 (checkC l pk.length)]) ∧ Below w.heap.size w w'
theorem below_undrew {w w' : World} (h : Below w.drew.heap.size w.drew w') : Below w.heap.size w w' := ⟨h.os, h.tape, h.output, h.size, h.block⟩
theorem own_form {w : World} {base : Nat} {e : TypeId} {size : Nat} {v : Value} {n : Nat} {xs : List Value} (h : w.ownsRow base e size v n xs) : ∃ p cap, v = .slice p n cap := by
  rcases h.2 with ⟨e1, e2⟩ | ⟨g, cap, cur, e1, _⟩
  · exact ⟨none, 0, by rw [e1, e2]⟩
  · exact ⟨_, _, e1⟩
theorem thC_one (ov : Value) (tb : Nat) (t : Ct.Th) (h : ov.oneCell' = true) : ∀ v ∈ thC ov tb t, v.oneCell' = true := by
  intro v hv
  simp only [thC, List.mem_cons, List.not_mem_nil, or_false] at hv
  rcases hv with rfl | rfl | rfl
  · exact h
  · rfl
  · rfl
theorem MachZ.thread {B : Nat} {w0 wr w5 w6 : World} {g : Ghost} {m : MFix} {role : Nat → Option Role} {vth vpk vhi v5 : Value} {ov : Nat → Value} {tb : Nat → Nat} {pk : List Int} {M : Ct.Mach} {os : List Ct.Op} {k gb cap : Nat} {o : Obj}
    (h : MachX (fun _ => False) g wr m role vth vpk vhi ov tb pk M) (hB : (∀ k, Own g role k → B ≤ k) ∧ ∀ k, k < B → g.N k) (hk0 : Keep (fun k => B ≤ k) w0 wr) (hle : B ≤ wr.heap.size) (hl : M.threads.length = k)
    (hown5 : w5.ownsRow wr.heap.size 35 5 v5 os.length (os.map opC).flatten) (hb5 : Below wr.heap.size wr w5)
    (hown6 : w6.ownsRow 0 128 3 (.slice (some ⟨gb, 0, none⟩) (k + 1) cap) (k + 1) ((thRows ov tb M.threads).flatten ++ thC v5 (tb k) { ops := os })) (hg6 : Keep (fun b => vth.ownBlock = some b) (w5.alloc o) w6) (hat : vth.ownBlock = some gb ∨ gb = (w5.alloc o).heap.size) :
    MachZ B w0 (w6.setCell ⟨m.mb, 2, none⟩ (.slice (some ⟨gb, 0, none⟩) (k + 1) cap)) m vpk pk { M with threads := M.threads ++ [{ ops := os }] } := by
  subst hl
  have s5 := hb5.size
  have k56 : Keep (fun b => vth.ownBlock = some b ∨ w5.heap.size ≤ b) w5 w6 := (Keep.alloc _ w5 o).trans hg6 (fun b hb => .inl (.inl hb))
  have k6 : Keep (fun b => vth.ownBlock = some b ∨ wr.heap.size ≤ b) wr w6 := (Keep.below hb5 _).trans k56 (fun b hb => .inl (hb.imp id (fun h => Nat.le_trans s5 h)))
  have hat' : vth.ownBlock = some gb ∨ wr.heap.size ≤ gb := hat.imp id (fun e => by rw [e]; simp; omega)
  have hrN : ∀ b, vth.ownBlock = some b → g.N b ∧ b < wr.heap.size := fun b hb => by have := h.body.rN _ _ (h.body.rth b hb); exact ⟨this.1, this.2.2⟩
  have hu : OpsAt (fun k => g.N k ∨ k = gb) w6 v5 os := by
    have h1 : OpsAt (fun k => g.N k ∨ k = gb) w5 v5 os := RowAt.of_owns hown5 (fun b hb hN => by
      have h2 := hown5.lt b hb
      rcases hN with h3 | h3
      · have := h.arena.nlt b h3; omega
      · subst h3
        rcases hat with h4 | h4
        · have := (hrN b h4).2; omega
        · rw [h4] at h2; simp at h2; omega)
    exact h1.keep k56 (fun b hb => hb.imp (fun h => .inl (hrN b h).1) id) (fun _ h => .inl h)
  have hx := h.thread os v5 gb cap k6 hown6 hat' hu
  have km : Keep (fun b => (vth.ownBlock = some b ∨ wr.heap.size ≤ b) ∨ b = m.mb) wr (w6.setCell ⟨m.mb, 2, none⟩ (.slice (some ⟨gb, 0, none⟩) (M.threads.length + 1) cap)) := (k6.mono (fun _ _ h => .inl h)).trans (Keep.setCell (F := fun b => b = m.mb) w6 ⟨m.mb, 2, none⟩ _ rfl) (fun b e => .inl (.inr e))
  refine ⟨⟨_, _, _, _, _, _, hx, fun b hb => ?_, fun b hb => .inl (hB.2 b hb)⟩, hk0.trans km (fun b hb => .inl ?_), Nat.le_trans hle km.size⟩
  · rcases hb with h1 | h1
    · exact hB.1 b (.inl h1)
    · by_cases e : b = gb
      · rcases hat' with h2 | h2
        · exact hB.1 b (.inr (by rw [e, h.body.rth gb h2]; simp))
        · omega
      · dsimp only at h1; rw [if_neg e] at h1; exact hB.1 b (.inr h1)
  · rcases hb with (h1 | h1) | h1
    · exact hB.1 b (.inr (by rw [h.body.rth b h1]; simp))
    · omega
    · exact hB.1 b (.inr (by rw [h1, h.body.rmb]; simp))
theorem MachZ.newPicks {B : Nat} {w0 wr w7 : World} {g : Ghost} {m : MFix} {role : Nat → Option Role} {vth vpk vhi : Value} {ov : Nat → Value} {tb : Nat → Nat} {pk pk' : List Int} {M : Ct.Mach} {n gp : Nat} {xs : List Value}
    (h : MachX (fun _ => False) g wr m role vth vpk vhi ov tb pk M) (hB : (∀ k, Own g role k → B ≤ k) ∧ ∀ k, k < B → g.N k) (hk0 : Keep (fun k => B ≤ k) w0 wr) (hle : B ≤ wr.heap.size)
    (hown : w7.ownsRow 0 129 1 (.slice (some ⟨gp, 0, none⟩) n n) n xs) (hxs : xs = pk'.map (Value.int .i8)) (hn : pk'.length = n) (hg : Keep (fun _ => False) wr w7) (hgp : wr.heap.size ≤ gp) :
    MachZ B w0 (w7.setCell ⟨m.mb, 3, none⟩ (.slice (some ⟨gp, 0, none⟩) n n)) m (.slice (some ⟨gp, 0, none⟩) n n) pk' M := by
  subst hxs hn
  obtain ⟨role', hr', hx⟩ := h.picks pk' gp pk'.length (hg.mono (fun _ _ h => h.elim)) hown hgp
  have km : Keep (fun b => b = m.mb) wr (w7.setCell ⟨m.mb, 3, none⟩ (.slice (some ⟨gp, 0, none⟩) pk'.length pk'.length)) := (hg.mono (fun _ _ h => h.elim)).trans (Keep.setCell (F := fun b => b = m.mb) w7 ⟨m.mb, 3, none⟩ _ rfl) (fun b e => .inl e)
  refine ⟨⟨_, _, _, _, _, _, hx, fun b hb => ?_, fun b hb => .inl (hB.2 b hb)⟩, hk0.trans km (fun b hb => .inl ?_), Nat.le_trans hle km.size⟩
  · rcases hb with h1 | h1
    · exact hB.1 b (.inl h1)
    · exact (hr' b h1).elim (fun h2 => hB.1 b (.inr h2)) (fun e => by omega)
  · exact hB.1 b (.inr (by rw [hb, h.body.rmb]; simp))
theorem MachZ.setPick {B : Nat} {w0 w : World} {m : MFix} {pk : List Int} {M : Ct.Mach} {i gp n cap : Nat} (x : Int) (h : MachZ B w0 w m (.slice (some ⟨gp, 0, none⟩) n cap) pk M) (hi : i < pk.length) (hn : pk.length = n) :
    MachZ B w0 (w.setCell ⟨gp, i, none⟩ (.int .i8 x)) m (.slice (some ⟨gp, 0, none⟩) n cap) (pk.set i x) M := by
  subst hn
  obtain ⟨⟨g, role, vth, vhi, ov, tb, hx, hB⟩, hk, hle⟩ := h
  have km : Keep (fun b => b = gp) w (w.setCell ⟨gp, i, none⟩ (.int .i8 x)) := Keep.setCell w ⟨gp, i, none⟩ _ rfl
  exact ⟨⟨g, role, vth, vhi, ov, tb, hx.setPick i gp cap x hi rfl, hB⟩, hk.trans km (fun b hb => .inl (hB.1 b (.inr (by rw [hb, hx.body.rpk gp rfl]; simp)))), Nat.le_trans hle km.size⟩
theorem MachZ.pickCells {B : Nat} {w0 w : World} {m : MFix} {pk : List Int} {M : Ct.Mach} {gp n cap : Nat} (h : MachZ B w0 w m (.slice (some ⟨gp, 0, none⟩) n cap) pk M) (i : Nat) (hi : i < pk.length) :
    (∃ x, w.cell? ⟨gp, i, none⟩ = some x) ∧ w.frozen? ⟨gp, i, none⟩ = false ∧ gp ≠ m.mb ∧ w.cell? ⟨m.mb, 3, none⟩ = some (.slice (some ⟨gp, 0, none⟩) n cap) ∧ ∃ p c, w.cell? ⟨m.mb, 2, none⟩ = some (.slice p M.threads.length c) := by
  obtain ⟨⟨g, role, vth, vhi, ov, tb, hx, hB⟩, hk, hle⟩ := h
  obtain ⟨p, c, ev⟩ := hx.body.len
  have h2 := hx.body.cell 2; have h3 := hx.body.cell 3
  subst ev
  obtain rfl : n = pk.length := by
    rcases hx.body.picks.2 with ⟨e, _⟩ | ⟨_, _, _, e, _⟩
    · cases e
    · injection e
  refine ⟨⟨.int .i8 (pk[i]), ?_⟩, hx.body.picks.frozenAt i, fun e => ?_, by rw [h3]; rfl, p, c, by rw [h2]; rfl⟩
  · exact (hx.body.picks.cellAt i (by simpa using hi)).trans (by rw [List.getElem?_map, List.getElem?_eq_getElem hi]; rfl)
  · have := hx.body.rpk gp rfl
    rw [e, hx.body.rmb] at this; cases this
theorem made_zero (z : Value) (hz : z.cells = #[z]) (n : Nat) : (madeCells z.cells (n * 1)).toList = List.replicate n z := by
  rw [hz]
  apply List.ext_getElem?
  intro i
  simp only [madeCells, Nat.mul_one, Array.toList_map, Array.toList_range, List.getElem?_map, List.getElem?_replicate]
  by_cases hi : i < n
  · rw [List.getElem?_range hi, if_pos hi]
    simp [Nat.mod_one]
  · rw [List.getElem?_eq_none (by simpa using hi), if_neg hi]; rfl
theorem picks_step (f : Int → Int) (pk : List Int) (k : Nat) (x y : Int) (hx : pk[k]? = some x) (hy : f x = y) : ((pk.take k).map f ++ List.replicate (pk.length - k) 0).set k y = (pk.take (k + 1)).map f ++ List.replicate (pk.length - (k + 1)) 0 := by
  have hlt := (List.getElem?_eq_some_iff.1 hx).1
  have hl : ((pk.take k).map f).length = k := by simp; omega
  rw [List.set_append, if_neg (by omega), hl, Nat.sub_self, show pk.length - k = (pk.length - (k + 1)) + 1 by omega, List.replicate_succ, List.set_cons_zero, List.take_add_one, hx]
  simp [hy]
theorem wrap8_small (x : Int) (h : 0 ≤ x) (h1 : x < 128) : IntKind.i8.wrap x = x := by
  have e : x % (2 ^ IntKind.i8.bits : Int) = x := Int.emod_eq_of_lt h (by simp [IntKind.bits]; omega)
  unfold IntKind.wrap
  simp only [e]
  rw [if_neg]
  simp [IntKind.bits]; omega
theorem info_i8 : (Tryz.prog.info? 129).map (fun i => (i.zero, i.size, i.bytes)) = some (some (.int .i8 0), 1, 1) := by kernel_rfl
def zeroTh : Array Value := #[.slice none 0 0, .int .i64 0, .pointer none]
theorem info_thread : (Tryz.prog.info? 128).map (fun i => (i.zero, i.size, i.bytes)) = some (some (.agg zeroTh), 3, 40) := by kernel_rfl
set_option maxRecDepth 100000 in
set_option maxHeartbeats 1600000 in
theorem schedNew_any (N0 : Nat → Prop) (w : World) (mask : Nat) (vths vpk : Value) (l : List (List Ct.Op)) (pk : List Int) (h1 : ThreadsAt N0 w vths l) (h2 : PicksAt N0 w vpk pk) :
    Calls Tryz.prog 20 #[.agg #[.int .u64 (mask : Nat), vths, vpk]] w (NewMRes w l pk mask) := by
  have HC1 := check_any N0 w
  obtain ⟨p, cap, rfl, hm, hf⟩ := h1.form
  obtain ⟨q, cq, rfl, hmq, hg⟩ := RowAt.form h2 (by simp)
  have hb0 := (Below.refl w.heap.size w).alloc (Nat.le_refl _) (.cells #[.int .u64 (mask : Nat), .slice p l.length cap, .slice q pk.length cq] 50)
  have hat0 := heap_alloc_at w (.cells #[.int .u64 (mask : Nat), .slice p l.length cap, .slice q pk.length cq] 50)
  have HCK := Lib.hid (check_any N0 (w.alloc (.cells #[.int .u64 (mask : Nat), .slice p l.length cap, .slice q pk.length cq] 50)) (mask : Nat) _ _ l pk (h1.below hb0) (h2.below hb0))
  have HF := Lib.hid hf; have HG := Lib.hid hg
  have HB0 := Lib.hid hb0; have HAT := Lib.hid hat0
  obtain ⟨cc, hcc⟩ : ∃ c, checkC l pk.length = c := ⟨_, rfl⟩
  have HCC := Lib.hid hcc
  rw [hcc] at HCK
  unfold NewMRes
  rw [hcc]
  clear h1 h2 hf hg hb0 hat0 hcc HC1
  by_cases hc0 : cc = 0
  · subst hc0
    simp only [↓reduceIte]
    go_enter Tryz.func20, Tryz.ntmps20
    go_wp2_with fail
    refine HCK.out.mono ?_
    rintro e w1 ⟨rfl, hb1⟩
    have HB1 := Lib.hid hb1
    clear HCK
    have HAN := Lib.hid (arenaNew_any w1)
    have hat1 := HAT.out
    have s1 : w1.cell? ⟨w.heap.size, 0, none⟩ = some (.int .u64 (mask : Nat)) := cell_below (cell_at HAT.out 0) hb1
    have s2 : w1.cell? ⟨w.heap.size, 1, none⟩ = some (.slice p l.length cap) := cell_below (cell_at HAT.out 1) hb1
    have s3 : w1.cell? ⟨w.heap.size, 2, none⟩ = some (.slice q pk.length cq) := cell_below (cell_at HAT.out 2) hb1
    clear hb1 hat1
    go_wp2_with fail
    refine HAN.out.mono ?_
    rintro e w2 ⟨rfl, ha2, hb2, hz2⟩
    have HNT := Lib.hid (handleNew_any _ w2 {} mask ha2 (Fin.zero _ (by decide)))
    have hlt1 : w.heap.size < w1.heap.size := World.block_lt_of_cell? _ _ s1
    have HSC : Hid (∀ W, Keep (fun k => w1.heap.size ≤ k) w1 W → W.cell? ⟨w.heap.size, 1, none⟩ = some (.slice p l.length cap) ∧ W.cell? ⟨w.heap.size, 2, none⟩ = some (.slice q pk.length cq)) := fun W k => ⟨k.cell s2 (by simp; omega), k.cell s3 (by simp; omega)⟩
    have HTH : Hid (∀ W, Keep (fun k => w1.heap.size ≤ k) w1 W → ∀ (i : Nat) os, l[i]? = some os → ∃ b off u, p = some ⟨b, off, none⟩ ∧ W.cell? ⟨b, off + i, none⟩ = some u ∧ OpsAt N0 W u os) := fun W k i os hi => by
      obtain ⟨b, off, u, e, hb, hc, ho⟩ := HF.out i os hi
      have hc1 := cell_below (cell_below hc HB0.out) HB1.out
      exact ⟨b, off, u, e, k.cell hc1 (by simp; omega), ((ho.below HB0.out).below HB1.out).keep k (fun _ h => .inr h) (fun _ h => .inl h)⟩
    have HPK : Hid (∀ W, Keep (fun k => w1.heap.size ≤ k) w1 W → ∀ (i : Nat) x, pk[i]? = some x → ∃ b off, q = some ⟨b, off, none⟩ ∧ W.cell? ⟨b, off + i, none⟩ = some (.int .i64 x)) := fun W k i x hi => by
      obtain ⟨b, off, e, hb, hc⟩ := HG.out i _ (by rw [List.getElem?_map, hi]; rfl)
      have hc1 := cell_below (cell_below hc HB0.out) HB1.out
      exact ⟨b, off, e, k.cell hc1 (by simp; omega)⟩
    have s1' := cell_below s1 hb2; have s2' := cell_below s2 hb2; have s3' := cell_below s3 hb2
    have ha2' := Lib.hid ha2; have HB2 := Lib.hid hb2
    clear s1 s2 s3 ha2 hb2 HAN
    go_wp2_with fail
    refine HNT.out.mono ?_
    rintro e w3 ⟨rfl, vn, vc, N, ha3, ht3, hs3⟩
    obtain ⟨role, hx, hro⟩ := MachX.init ha3 ht3
    have hlt3 : w.heap.size < w3.heap.size := by have := HB2.out.size; have := hs3.keep.size; omega
    have hz : MachZ w1.heap.size w1 (w3.alloc (.cells #[.pointer (some ⟨w1.heap.size, 0, none⟩), .pointer (some ⟨w2.heap.size + 3, 0, none⟩), .slice none 0 0, .slice none 0 0, .slice none 0 0, .int .i64 0] 125)) ⟨w3.heap.size, w2.heap.size + 3, w2.heap.size, w2.heap.size + 1, w2.heap.size + 2, mask⟩ (.slice none 0 0) [] { st := (Ct.createC {}).2, tab := { tries := [(0, (Ct.createC {}).1)] }, mask := mask } := by
      have ft : ∀ k, (newGhost w1.heap.size).Foot k → w1.heap.size ≤ k := fun k hk => by
        rcases hk with h | h | h
        · exact Nat.le_of_eq h.symm
        · simp [newGhost, Value.ownBlock] at h
        · simp [newGhost, Value.ownBlock] at h
      refine ⟨⟨_, _, _, _, _, _, hx, fun k hk => ?_, fun k hk => .inl (hs3.old k (Nat.le_of_lt hk))⟩, ?_, ?_⟩
      · have := HB2.out.size; have := hs3.keep.size
        rcases hk with hk | hk
        · rcases hs3.foot k hk with h | h
          · exact ft k h
          · omega
        · rcases hro k hk with h | h | h | h | h <;> omega
      · exact ((Keep.below HB2.out (fun k => w1.heap.size ≤ k)).trans (hs3.keep.mono (fun k _ h => ft k h)) (fun _ h => .inl h)).trans (Keep.alloc (fun k => w1.heap.size ≤ k) w3 _) (fun _ h => .inl h)
      · have := HB2.out.size; have := hs3.keep.size; simp; omega
    have HZ := Lib.hid hz
    obtain ⟨s2a, s3a⟩ := HSC.out _ hz.keep
    obtain ⟨nl, hnl⟩ : ∃ n, l.length = n := ⟨_, rfl⟩
    obtain ⟨np, hnp⟩ : ∃ n, pk.length = n := ⟨_, rfl⟩
    rw [hnl] at s2a hm HSC; rw [hnp] at s3a hmq HSC
    have HNL := Lib.hid hnl; have HNP := Lib.hid hnp
    clear ha3 ht3 hs3 hx hz HF HG HNT HAT s1' s2' s3' hz2 ha2'
    go_wp2_with fail
    go_loopw [28] (fun v wr => ∃ k : Nat, v = .int .i64 k ∧ k ≤ nl ∧ MachZ w1.heap.size w1 wr ⟨w3.heap.size, w2.heap.size + 3, w2.heap.size, w2.heap.size + 1, w2.heap.size + 2, mask⟩ (.slice none 0 0) [] { st := (Ct.createC {}).2, tab := { tries := [(0, (Ct.createC {}).1)] }, threads := (l.take k).map newTh, mask := mask }) (fun v _ => nl - (intOf v).toNat)
    case atStart => exact ⟨0, rfl, Nat.zero_le _, HZ.out⟩
    case round =>
      obtain ⟨k, rfl, hk, hz⟩ := hrel
      by_cases hlt : k < nl
      · obtain ⟨os, hos⟩ : ∃ os, l[k]? = some os := ⟨_, List.getElem?_eq_getElem (by rw [HNL.out]; exact hlt)⟩
        obtain ⟨b, off, u, rfl, hc, ho⟩ := HTH.out wr hz.keep k os hos
        obtain ⟨⟨g, role, vth, vhi, ov, tb, hx, hB⟩, hkeep, hle⟩ := hz
        have hl16 : os.length ≤ 16 := (checkC_ok HCC.out).2.2 os (List.mem_of_getElem? hos)
        have hn8 : nl ≤ 8 := by rw [← HNL.out]; exact (checkC_ok HCC.out).1
        have HCL := Lib.hid (cloneOps_any N0 wr.drew u os (ho.below (Below.drew0 wr)) (by omega))
        obtain ⟨i0, hi0, hz0, hz1, hz2⟩ := info_parts info_thread
        have hlen : (({ st := (Ct.createC {}).2, tab := { tries := [(0, (Ct.createC {}).1)] }, threads := (l.take k).map newTh, mask := mask } : Ct.Mach).threads).length = k := by simp; have := HNL.out; omega
        obtain ⟨M, hM⟩ : ∃ M : Ct.Mach, { st := (Ct.createC {}).2, tab := { tries := [(0, (Ct.createC {}).1)] }, threads := (l.take k).map newTh, mask := mask } = M := ⟨_, rfl⟩
        obtain ⟨m, hmm⟩ : ∃ m : MFix, ⟨w3.heap.size, w2.heap.size + 3, w2.heap.size, w2.heap.size + 1, w2.heap.size + 2, mask⟩ = m := ⟨_, rfl⟩
        have hmb : m.mb = w3.heap.size := by rw [← hmm]
        rw [hM] at hx hlen
        rw [hmm] at hx
        have c2 := hx.body.cell 2
        simp at c2
        have f2 := hx.body.free 2
        have hne2 : vth.ownBlock ≠ some m.mb := fun e => by have := hx.body.rth _ e; rw [hx.body.rmb] at this; cases this
        have ths := hx.body.ths
        rw [hlen] at ths
        rw [hmb] at c2 f2 hne2
        have HX := Lib.hid hx; have HM := Lib.hid hM; have HMM := Lib.hid hmm; have HLEN := Lib.hid hlen; have HOS := Lib.hid hos
        have HKE := Lib.hid hkeep; have HTHS := Lib.hid ths; have HMB := Lib.hid hmb; have HBB := Lib.hid hB
        clear hx hM hmm hlen hos hkeep ths hmb hB ho
        go_wp2_with fail
        have x6 : os.length ≤ 16 := hl16
        go_region_law (first
          | (go_simp; go_at_call 57; refine HCL.out.mono ?_; rintro e w5 ⟨v5, rfl, hown5, hb5d⟩; have hb5 := below_undrew hb5d; have c2' := cell_below c2 hb5; have f2' : w5.frozen? ⟨w3.heap.size, 2, none⟩ = false := (World.frozen?_of_block (hb5.block _ (World.block_lt_of_cell? _ _ c2))).trans f2; obtain ⟨p5, cap5, ev5⟩ := own_form hown5; subst ev5; have HON := Lib.hid ((ownsRow_keep HTHS.out (Keep.below hb5 (fun _ => False)) (fun _ _ h => h)).alloc (.cells (thC (.slice p5 os.length cap5) (tb k) { ops := os }).toArray 128)); have HNW := Lib.hid (new_row (w := w5) (cs := thC (.slice p5 os.length cap5) (tb k) { ops := os }) (t := 128)); have c2a := cell_alloc c2')
          | (refine step_append_lies _ rfl (.tmp 36) (.tmp 40) 122 rfl 0 128 i0 (.agg zeroTh) 3 40 Tryz.underlying122 hi0 hz0 hz1 hz2 rfl (by decide) _ k (thRows ov tb M.threads).flatten rfl HON.out ⟨w5.heap.size, 0, none⟩ 1 1 (thC (.slice p5 os.length cap5) (tb k) { ops := os }) rfl rfl HNW.out (thC_one _ _ _ rfl) (by decide) (by unfold maxLen; omega) (by omega) (Nat.zero_le _) _ rfl ?_; intro gb capb w6 hown6 hgrow6 hat6 hlt6; have hf6 := grown_facts (w := w5) (o := .cells (thC (.slice p5 os.length cap5) (tb k) { ops := os }).toArray 128) (a := ⟨w3.heap.size, 2, none⟩) hgrow6 rfl c2' f2' hne2; obtain ⟨e6, f6⟩ := hf6))
        all_goals
          go_wp2_with fail
          go_roundw
          case measure => simp [intOf]; omega
          case rel =>
            refine ⟨k + 1, by go_num, by omega, ?_⟩
            have hz6 := MachZ.thread HX.out HBB.out HKE.out hle HLEN.out hown5 hb5 hown6 ⟨hgrow6.os, hgrow6.tape, hgrow6.output, hgrow6.size, fun b hb hn => hgrow6.block b hb (fun e => hn e.symm)⟩ hat6
            rw [HMB.out] at hz6
            have e : (l.take (k + 1)).map newTh = (l.take k).map newTh ++ [{ ops := os }] := by
              rw [List.take_add_one, HOS.out]; simp [newTh]
            rw [e, HMM.out]
            have e2 := HM.out
            rw [← e2] at hz6
            exact hz6
      · have hk2 : k = nl := by omega
        subst hk2
        have hlm : (({ st := (Ct.createC {}).2, tab := { tries := [(0, (Ct.createC {}).1)] }, threads := (l.take k).map newTh, mask := mask } : Ct.Mach)) = newM mask l := by
          have : l.take k = l := List.take_of_length_le (by rw [HNL.out]; exact Nat.le_refl _)
          rw [this]; rfl
        rw [hlm] at hz
        obtain ⟨m, hmm⟩ : ∃ m : MFix, ⟨w3.heap.size, w2.heap.size + 3, w2.heap.size, w2.heap.size + 1, w2.heap.size + 2, mask⟩ = m := ⟨_, rfl⟩
        have hmb : m.mb = w3.heap.size := by rw [← hmm]
        rw [hmm] at hz
        have s3r := (HSC.out wr hz.keep).2
        obtain ⟨⟨g, role, vth, vhi, ov, tb, hx, hB⟩, hkeep, hle⟩ := hz
        have c3 := hx.body.cell 3
        simp at c3
        have f3 := hx.body.free 3
        rw [hmb] at c3 f3
        obtain ⟨i0, hi0, hz0, hz1, hz2⟩ := info_parts info_i8
        have hnp2 : np ≤ 67108864 := by rw [← HNP.out]; exact (checkC_ok HCC.out).2.1
        have HX := Lib.hid hx; have HBB := Lib.hid hB; have HKE := Lib.hid hkeep; have HMM := Lib.hid hmm; have HMB := Lib.hid hmb
        clear hx hB hkeep hmm hmb hlm
        go_wp2_with (at_make; refine wpList_make_full _ rfl _ _ 123 rfl 0 129 i0 (.int .i8 0) 1 Tryz.underlying123 hi0 hz0 hz1 .i64 .i64 _ _ np rfl rfl rfl rfl (by rw [hz2]; omega) (by unfold maxLen; omega) (Nat.zero_le _) ?_; intro w7 hown7 hgrow7; have c3' := cell_later ((Below.refl _ _).grown hgrow7 (Nat.le_refl _) (fun k hk => by cases hk)) c3; have f3' : w7.frozen? ⟨w3.heap.size, 3, none⟩ = false := (World.frozen?_of_block (hgrow7.block _ (World.block_lt_of_cell? _ _ c3) (by simp))).trans f3; have s3r' := cell_later ((Below.refl _ _).grown hgrow7 (Nat.le_refl _) (fun k hk => by cases hk)) s3r)
        have hz8 := MachZ.newPicks (pk' := List.replicate np 0) HX.out HBB.out HKE.out hle hown7 (by rw [made_zero _ rfl, List.map_replicate]) (by simp) ⟨hgrow7.os, hgrow7.tape, hgrow7.output, hgrow7.size, fun b hb hn => hgrow7.block b hb (by simp)⟩ (Nat.le_refl _)
        rw [HMB.out] at hz8
        have HZ8 := Lib.hid hz8
        clear hz8 hown7 hgrow7 c3' f3' s3r s3r' c3 f3
        go_loopw [55] (fun v W => ∃ j : Nat, v = .int .i64 j ∧ j ≤ np ∧ MachZ w1.heap.size w1 W m (.slice (some ⟨wr.heap.size, 0, none⟩) np np) ((pk.take j).map (pickOf k) ++ List.replicate (np - j) 0) (newM mask l)) (fun v _ => np - (intOf v).toNat)
        case atStart => exact ⟨0, rfl, Nat.zero_le _, by simpa using HZ8.out⟩
        case round =>
          obtain ⟨j, rfl, hj, hz⟩ := hrel
          by_cases hjl : j < np
          · obtain ⟨x, hx⟩ : ∃ x, pk[j]? = some x := ⟨_, List.getElem?_eq_getElem (by rw [HNP.out]; exact hjl)⟩
            obtain ⟨b, off, rfl, hxc⟩ := HPK.out _ hz.keep j x hx
            have hlen : ((pk.take j).map (pickOf k) ++ List.replicate (np - j) 0).length = np := by simp; have := HNP.out; omega
            obtain ⟨⟨v0, hc0⟩, hf0, hgm, hc3, pt, ct, hc2⟩ := hz.pickCells j (by rw [hlen]; exact hjl)
            rw [show (newM mask l).threads.length = k by simp [newM]; exact HNL.out] at hc2
            rw [HMB.out] at hgm hc3 hc2
            have hgm' : ¬ w3.heap.size = _ := fun e => hgm e.symm
            have hk8 : k ≤ 8 := by rw [← HNL.out]; exact (checkC_ok HCC.out).1
            have HZ := Lib.hid hz; have HXX := Lib.hid hx; have HLE := Lib.hid hlen
            clear hz hx hlen
            by_cases q1 : 0 ≤ x ∧ x < k
            · obtain ⟨q1, q2⟩ := q1
              have q3 : ¬ x < 0 := by omega
              have q4 : IntKind.i8.wrap x = x := wrap8_small x q1 (by omega)
              go_wp2_with fail
              go_roundw
              case measure => simp [intOf]; omega
              case rel =>
                refine ⟨j + 1, by go_num, by omega, ?_⟩
                have h1 := MachZ.setPick (-1) HZ.out (by rw [HLE.out]; exact hjl) HLE.out
                have h2 := MachZ.setPick x h1 (by rw [List.length_set, HLE.out]; exact hjl) (by rw [List.length_set]; exact HLE.out)
                have e := picks_step (pickOf k) pk j x x HXX.out (if_pos ⟨q1, by exact_mod_cast q2⟩)
                rw [HNP.out] at e
                rw [List.set_set, e] at h2
                exact h2
            · by_cases q2 : x < 0
              · go_wp2_with fail
                go_roundw
                case measure => simp [intOf]; omega
                case rel =>
                  refine ⟨j + 1, by go_num, by omega, ?_⟩
                  have h1 := MachZ.setPick (-1) HZ.out (by rw [HLE.out]; exact hjl) HLE.out
                  have e := picks_step (pickOf k) pk j x (-1) HXX.out (if_neg q1)
                  rw [HNP.out] at e
                  rw [e] at h1
                  exact h1
              · have q3 : 0 ≤ x := by omega
                have q4 : ¬ x < k := by omega
                go_wp2_with fail
                go_roundw
                case measure => simp [intOf]; omega
                case rel =>
                  refine ⟨j + 1, by go_num, by omega, ?_⟩
                  have h1 := MachZ.setPick (-1) HZ.out (by rw [HLE.out]; exact hjl) HLE.out
                  have e := picks_step (pickOf k) pk j x (-1) HXX.out (if_neg q1)
                  rw [HNP.out] at e
                  rw [e] at h1
                  exact h1
          · have hj2 : j = np := by omega
            subst hj2
            have HZ := Lib.hid hz
            clear hz
            go_wp2_with fail
            refine bodyPost_ret (results_tmp2 Tryz.results20 _ _) rfl ?_
            have hfin : ∃ vpk, MachZ w.heap.size w wr m vpk (pk.map (pickOf l.length)) (newM mask l) := by
              have h := HZ.out
              rw [Nat.sub_self, List.replicate_zero, List.append_nil, List.take_of_length_le (by rw [HNP.out]; exact Nat.le_refl _)] at h
              rw [HNL.out]
              obtain ⟨⟨g, role, vth, vhi, ov, tb, hx, hB⟩, hk, hle⟩ := h
              exact ⟨_, ⟨g, role, vth, vhi, ov, tb, hx, fun b hb => by have := hB.1 b hb; omega, fun b hb => hB.2 b (by omega)⟩, ((Keep.below HB0.out (fun b => w.heap.size ≤ b)).trans (Keep.below HB1.out (fun b => w.heap.size ≤ b)) (fun _ h => .inl h)).trans (hk.mono (fun b _ h => by omega)) (fun _ h => .inl h), by omega⟩
            obtain ⟨vpk, hv⟩ := hfin
            exact ⟨m, vpk, by rw [HMB.out]; rfl, by rw [← HMM.out], hv⟩
  · simp only [hc0, ↓reduceIte]
    have hc1 : (cc == 0) = false := by simpa using hc0
    go_enter Tryz.func20, Tryz.ntmps20
    go_wp2_with fail
    refine HCK.out.mono ?_
    rintro e w1 ⟨rfl, hb1⟩
    have HB1 := Lib.hid hb1
    clear hb1 HCK
    go_wp2_with fail
    refine bodyPost_ret (results_tmp2 Tryz.results20 _ _) rfl ?_
    exact ⟨rfl, below_then HB0.out (by simp) HB1.out⟩
end Go.Proofs.YtjlgchdekhmnnaaGreatDoor
end
