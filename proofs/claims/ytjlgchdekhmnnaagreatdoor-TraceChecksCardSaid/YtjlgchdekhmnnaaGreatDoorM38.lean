/- Parts of a proof: Nv. -/
import Derived.Test.YtjlgchdekhmnnaaGreatDoorM30
import Derived.Test.YtjlgchdekhmnnaaGreatDoorM37
section
namespace Go.Proofs.YtjlgchdekhmnnaaGreatDoor
open Go.RowKit
set_option linter.unusedVariables false
theorem thRows_more (ov : Nat → Value) (tb : Nat → Nat) (ths : List Ct.Th) (t : Ct.Th) (u : Value) : thRows (fun k => if k = ths.length then u else ov k) tb (ths ++ [t]) = thRows ov tb ths ++ [thC u (tb ths.length) t] := by
  apply List.ext_getElem?
  intro k
  rw [thRows_get]
  rcases Nat.lt_trichotomy k ths.length with h | h | h
  · rw [List.getElem?_append_left h, List.getElem?_append_left (by rw [thRows_len]; exact h), thRows_get, if_neg (by omega)]
  · subst h
    rw [if_pos rfl, List.getElem?_append_right (Nat.le_refl _), List.getElem?_append_right (by rw [thRows_len]; exact Nat.le_refl _), thRows_len]
    simp
  · rw [List.getElem?_eq_none (by simp; omega), List.getElem?_eq_none (by simp [thRows_len]; omega)]; rfl
theorem MachX.thread {X : Nat → Prop} {g : Ghost} {w w1 : World} {m : MFix} {role : Nat → Option Role} {vth vpk vhi : Value} {ov : Nat → Value} {tb : Nat → Nat} {pk : List Int} {M : Ct.Mach} (h : MachX X g w m role vth vpk vhi ov tb pk M) (os : List Ct.Op) (u : Value) (gb cap : Nat)
    (hk : Keep (fun k => vth.ownBlock = some k ∨ w.heap.size ≤ k) w w1) (hown : w1.ownsRow 0 128 3 (.slice (some ⟨gb, 0, none⟩) (M.threads.length + 1) cap) (M.threads.length + 1) ((thRows ov tb M.threads).flatten ++ thC u (tb M.threads.length) { ops := os })) (hgb : vth.ownBlock = some gb ∨ w.heap.size ≤ gb) (hu : OpsAt (fun k => g.N k ∨ k = gb) w1 u os) :
    MachX X (g.withN fun k => g.N k ∨ k = gb) (w1.setCell ⟨m.mb, 2, none⟩ (.slice (some ⟨gb, 0, none⟩) (M.threads.length + 1) cap)) m (fun k => if k = gb then some .threads else role k) (.slice (some ⟨gb, 0, none⟩) (M.threads.length + 1) cap) vpk vhi (fun k => if k = M.threads.length then u else ov k) tb pk { M with threads := M.threads ++ [{ ops := os }] } := by
  have hb := h.body
  have hgl : gb < w1.heap.size := (hown.lt gb rfl).2
  have hgr : role gb = some .threads ∨ w.heap.size ≤ gb := hgb.imp (hb.rth gb) id
  have R := h.rest (N' := fun k => g.N k ∨ k = gb) .threads hk (fun k hk => hk.imp (hb.rth k) id) (by simp) (fun k hk => hk.elim .inl (fun e => hgr.imp (fun h1 => e ▸ (hb.rN gb _ h1).1) (fun h1 => e ▸ h1))) (fun _ h => .inl h) (fun k hk => hk.elim (fun h1 => Nat.lt_of_lt_of_le (h.arena.nlt k h1) (Keep.size ‹_›)) (fun e => e ▸ hgl))
  have nr : ∀ k r, role k = some r → r ≠ .threads → k ≠ gb := fun k r hr n1 e => by
    subst e
    rcases hgr with h1 | h1
    · rw [hr] at h1; injection h1 with h1; exact n1 h1
    · have := (hb.rN k r hr).2.2; omega
  have hmb : m.mb ≠ gb := nr _ _ hb.rmb (by simp)
  obtain ⟨g', hg'⟩ : ∃ g', g' = g.withN fun k => g.N k ∨ k = gb := ⟨_, rfl⟩
  rw [← hg'] at R ⊢
  have hga : g'.a = g.a := by rw [hg']; rfl
  have hgN : ∀ k, g'.N k ↔ g.N k ∨ k = gb := fun k => by rw [hg']; rfl
  have hgN' : g'.N = fun k => g.N k ∨ k = gb := by rw [hg']; rfl
  have hgF : ∀ k, g'.Foot k ↔ g.Foot k := fun k => by rw [hg']; rfl
  have k2 : Keep (fun k => k = m.mb) w1 (w1.setCell ⟨m.mb, 2, none⟩ (.slice (some ⟨gb, 0, none⟩) (M.threads.length + 1) cap)) := Keep.setCell w1 ⟨m.mb, 2, none⟩ _ rfl
  have hmN := R.rN _ _ hb.rmb
  have ne2 : ∀ k r, role k = some r → r ≠ .mach → ¬ k = m.mb := fun k r hr n1 e => by subst e; rw [hb.rmb] at hr; injection hr with hr; exact n1 hr.symm
  refine ⟨R.arena.own k2 hmN.1 hmN.2.1, R.tab.keep k2 ⟨ne2 _ _ hb.rhb (by simp), ne2 _ _ hb.rm1 (by simp), ne2 _ _ hb.rm2 (by simp), ne2 _ _ hb.rm3 (by simp)⟩ rfl (fun _ h => h) (fun _ h => .inl h), ⟨?_, ?_, ?_, ?_, fun i t ht => ?_, fun i t c hx ht hc => ?_, ?_, ?_, ?_, ?_, ?_, fun k hv => ?_, fun k hv => ?_, fun k hv => ?_, fun k r hr => ?_⟩, h.msk⟩
  · rw [heap_setCell_at w1 m.mb 2 _ _ _ _ (R.blk (by simp))]; rfl
  · have h3 := ownsRow_keep hown k2 (fun k hv e => hmb (by injection hv with hv; exact (hv.trans e).symm))
    show World.ownsRow _ 0 _ 3 _ (M.threads ++ [_]).length (thRows _ _ (M.threads ++ [_])).flatten
    rw [thRows_more, List.flatten_append]
    simpa using h3
  · exact ownsRow_keep (R.hist (by simp)) k2 (fun k hv => ne2 k _ (hb.rhi k hv) (by simp))
  · exact ownsRow_keep (R.picks (by simp)) k2 (fun k hv => ne2 k _ (hb.rpk k hv) (by simp))
  · replace ht : (M.threads ++ [{ ops := os }])[i]? = some t := ht
    rcases Nat.lt_or_ge i M.threads.length with hi | hi
    · rw [List.getElem?_append_left hi] at ht
      show OpsAt g'.N _ (if i = M.threads.length then u else ov i) t.ops
      rw [if_neg (by omega)]
      exact (R.ops i t ht).keep k2 (fun k hk => .inl (hk ▸ hmN.1)) (fun _ h => .inl h)
    · rw [List.getElem?_append_right hi] at ht
      have hi0 : i - M.threads.length = 0 := by
        have := (List.getElem?_eq_some_iff.1 ht).1
        simp at this; omega
      rw [hi0] at ht
      simp at ht
      subst ht
      show OpsAt g'.N _ (if i = M.threads.length then u else ov i) os
      rw [if_pos (by omega), hgN']
      exact hu.keep k2 (fun k hk => .inl (hk ▸ (hgN _).1 hmN.1)) (fun _ h => .inl h)
  · replace ht : (M.threads ++ [{ ops := os }])[i]? = some t := ht
    rcases Nat.lt_or_ge i M.threads.length with hi | hi
    · rw [List.getElem?_append_left hi] at ht
      obtain ⟨⟨n, O, h1, h2, h4⟩, h3⟩ := R.task i t c hx (by simp) ht hc
      exact ⟨⟨n, O, h1.mv k2 (ne2 _ _ h3 (by simp)) (fun k hk => .inl (hk ▸ hmN.1)) (fun k hk => .inl (fun ho => ne2 _ _ (h4 k ho) (by simp) hk)) rfl (fun _ h => .inl h) (fun _ h => h) (fun _ h => .inl h), h2, fun k ho => by rw [if_neg (nr _ _ (h4 k ho) (by simp))]; exact h4 k ho⟩, by rw [if_neg (nr _ _ h3 (by simp))]; exact h3⟩
    · rw [List.getElem?_append_right hi] at ht
      have := List.mem_of_getElem? ht
      simp at this
      subst this
      cases hc
  · rw [if_neg hmb]; exact hb.rmb
  · rw [if_neg (nr _ _ hb.rhb (by simp))]; exact hb.rhb
  · rw [if_neg (nr _ _ hb.rm1 (by simp))]; exact hb.rm1
  · rw [if_neg (nr _ _ hb.rm2 (by simp))]; exact hb.rm2
  · rw [if_neg (nr _ _ hb.rm3 (by simp))]; exact hb.rm3
  · injection hv with hv; rw [if_pos hv.symm]
  · rw [if_neg (nr _ _ (hb.rhi k hv) (by simp))]; exact hb.rhi k hv
  · rw [if_neg (nr _ _ (hb.rpk k hv) (by simp))]; exact hb.rpk k hv
  · by_cases e : k = gb
    · subst e
      refine ⟨(hgN k).2 (.inr rfl), fun hf => ?_, Nat.lt_of_lt_of_le hgl k2.size⟩
      rcases hgr with h1 | h1
      · exact (hb.rN k _ h1).2.1 ((hgF k).1 hf)
      · have := h.arena.nlt k (h.arena.foot k ((hgF k).1 hf)); omega
    · rw [if_neg e] at hr
      have := R.rN k r hr
      exact ⟨this.1, this.2.1, Nat.lt_of_lt_of_le this.2.2 k2.size⟩
theorem MachX.picks {X : Nat → Prop} {g : Ghost} {w w1 : World} {m : MFix} {role : Nat → Option Role} {vth vpk vhi : Value} {ov : Nat → Value} {tb : Nat → Nat} {pk : List Int} {M : Ct.Mach} (h : MachX X g w m role vth vpk vhi ov tb pk M) (pk' : List Int) (gb cap : Nat)
    (hk : Keep (fun k => w.heap.size ≤ k) w w1) (hown : w1.ownsRow 0 129 1 (.slice (some ⟨gb, 0, none⟩) pk'.length cap) pk'.length (pk'.map (Value.int .i8))) (hgb : w.heap.size ≤ gb) :
    ∃ role', (∀ k, role' k ≠ none → role k ≠ none ∨ k = gb) ∧ MachX X (g.withN fun k => g.N k ∨ k = gb) (w1.setCell ⟨m.mb, 3, none⟩ (.slice (some ⟨gb, 0, none⟩) pk'.length cap)) m role' vth (.slice (some ⟨gb, 0, none⟩) pk'.length cap) vhi ov tb pk' M := by
  have hb := h.body
  have hgl : gb < w1.heap.size := (hown.lt gb rfl).2
  have hvp : ∀ k, vpk.ownBlock = some k → w.heap[k]? ≠ none := fun k hv e => by
    have := (hb.rN k _ (hb.rpk k hv)).2.2
    rw [Array.getElem?_eq_none_iff] at e; omega
  have R := h.rest (N' := fun k => g.N k ∨ k = gb) .picks hk (fun k hk => .inr hk) (by simp) (fun k hk => hk.elim .inl (fun e => .inr (e ▸ hgb))) (fun _ h => .inl h) (fun k hk => hk.elim (fun h1 => Nat.lt_of_lt_of_le (h.arena.nlt k h1) (Keep.size ‹_›)) (fun e => e ▸ hgl))
  have nr : ∀ k r, role k = some r → k ≠ gb := fun k r hr e => by
    subst e
    have := (hb.rN k r hr).2.2; omega
  have hmb : m.mb ≠ gb := nr _ _ hb.rmb
  obtain ⟨g', hg'⟩ : ∃ g', g' = g.withN fun k => g.N k ∨ k = gb := ⟨_, rfl⟩
  rw [← hg'] at R ⊢
  have hga : g'.a = g.a := by rw [hg']; rfl
  have hgN : ∀ k, g'.N k ↔ g.N k ∨ k = gb := fun k => by rw [hg']; rfl
  have hgF : ∀ k, g'.Foot k ↔ g.Foot k := fun k => by rw [hg']; rfl
  have k2 : Keep (fun k => k = m.mb) w1 (w1.setCell ⟨m.mb, 3, none⟩ (.slice (some ⟨gb, 0, none⟩) pk'.length cap)) := Keep.setCell w1 ⟨m.mb, 3, none⟩ _ rfl
  have hmN := R.rN _ _ hb.rmb
  have ne2 : ∀ k r, role k = some r → r ≠ .mach → ¬ k = m.mb := fun k r hr n1 e => by subst e; rw [hb.rmb] at hr; injection hr with hr; exact n1 hr.symm
  refine ⟨fun k => if k = gb then some .picks else role k, fun k hk => (by by_cases e : k = gb; exact .inr e; exact .inl (by simpa only [if_neg e] using hk)), R.arena.own k2 hmN.1 hmN.2.1, R.tab.keep k2 ⟨ne2 _ _ hb.rhb (by simp), ne2 _ _ hb.rm1 (by simp), ne2 _ _ hb.rm2 (by simp), ne2 _ _ hb.rm3 (by simp)⟩ rfl (fun _ h => h) (fun _ h => .inl h), ⟨?_, ?_, ?_, ?_, fun i t ht => (R.ops i t ht).keep k2 (fun k hk => .inl (hk ▸ hmN.1)) (fun _ h => .inl h), fun i t c hx ht hc => ?_, ?_, ?_, ?_, ?_, ?_, fun k hv => ?_, fun k hv => ?_, fun k hv => ?_, fun k r hr => ?_⟩, h.msk⟩
  · rw [heap_setCell_at w1 m.mb 3 _ _ _ _ (R.blk (by simp))]; rfl
  · exact ownsRow_keep (R.ths (by simp)) k2 (fun k hv => ne2 k _ (hb.rth k hv) (by simp))
  · exact ownsRow_keep (R.hist (by simp)) k2 (fun k hv => ne2 k _ (hb.rhi k hv) (by simp))
  · exact ownsRow_keep hown k2 (fun k hv e => hmb (by injection hv with hv; exact (hv.trans e).symm))
  · obtain ⟨⟨n, O, h1, h2, h4⟩, h3⟩ := R.task i t c hx (by simp) ht hc
    exact ⟨⟨n, O, h1.mv k2 (ne2 _ _ h3 (by simp)) (fun k hk => .inl (hk ▸ hmN.1)) (fun k hk => .inl (fun ho => ne2 _ _ (h4 k ho) (by simp) hk)) rfl (fun _ h => .inl h) (fun _ h => h) (fun _ h => .inl h), h2, fun k ho => by rw [if_neg (nr _ _ (h4 k ho))]; exact h4 k ho⟩, by rw [if_neg (nr _ _ h3)]; exact h3⟩
  · rw [if_neg hmb]; exact hb.rmb
  · rw [if_neg (nr _ _ hb.rhb)]; exact hb.rhb
  · rw [if_neg (nr _ _ hb.rm1)]; exact hb.rm1
  · rw [if_neg (nr _ _ hb.rm2)]; exact hb.rm2
  · rw [if_neg (nr _ _ hb.rm3)]; exact hb.rm3
  · rw [if_neg (nr _ _ (hb.rth k hv))]; exact hb.rth k hv
  · rw [if_neg (nr _ _ (hb.rhi k hv))]; exact hb.rhi k hv
  · injection hv with hv; rw [if_pos hv.symm]
  · by_cases e : k = gb
    · subst e
      refine ⟨(hgN k).2 (.inr rfl), fun hf => ?_, Nat.lt_of_lt_of_le hgl k2.size⟩
      have := h.arena.nlt k (h.arena.foot k ((hgF k).1 hf)); omega
    · rw [if_neg e] at hr
      have := R.rN k r hr
      exact ⟨this.1, this.2.1, Nat.lt_of_lt_of_le this.2.2 k2.size⟩
theorem MachX.setPick {X : Nat → Prop} {g : Ghost} {w : World} {m : MFix} {role : Nat → Option Role} {vth vpk vhi : Value} {ov : Nat → Value} {tb : Nat → Nat} {pk : List Int} {M : Ct.Mach} (h : MachX X g w m role vth vpk vhi ov tb pk M) (i gp cap : Nat) (x : Int) (hi : i < pk.length) (hv : vpk = .slice (some ⟨gp, 0, none⟩) pk.length cap) :
    MachX X g (w.setCell ⟨gp, i, none⟩ (.int .i8 x)) m role vth vpk vhi ov tb (pk.set i x) M := by
  have hb := h.body
  have hgp : role gp = some .picks := hb.rpk gp (by rw [hv]; rfl)
  have R := h.rest (N' := g.N) .picks (Keep.setCell (F := fun k => role k = some .picks) w ⟨gp, i, none⟩ (.int .i8 x) hgp) (fun k hk => .inl hk) (by simp) (fun _ h => .inl h) (fun _ h => h) (fun k hk => Nat.lt_of_lt_of_le (h.arena.nlt k hk) (Keep.setCell (F := fun k => role k = some .picks) w ⟨gp, i, none⟩ (.int .i8 x) hgp).size)
  rw [withN_self] at R
  refine ⟨R.arena, R.tab, ⟨R.blk (by simp), R.ths (by simp), R.hist (by simp), ?_, R.ops, fun k u c hx hu hc => R.task k u c hx (by simp) hu hc, hb.rmb, hb.rhb, hb.rm1, hb.rm2, hb.rm3, hb.rth, hb.rhi, hb.rpk, R.rN⟩, h.msk⟩
  have h0 := hb.picks
  subst hv
  have h1 := (h0.stored i (.int .i8 x)).1
  rw [List.length_set, List.map_set]; exact h1
end Go.Proofs.YtjlgchdekhmnnaaGreatDoor
end
