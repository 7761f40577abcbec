/- Parts of a proof: E4. -/
import Derived.Test.YtjlgchdekhmnnaaGreatDoorTC02
import Derived.Laws.OwnMore
import Derived.Laws.MakeOwn
import Derived.Maps.AppendAt
set_option linter.unusedVariables false
set_option linter.unusedSimpArgs false
section
namespace Go.E
variable {P : Program} {n : Nat} {K : Post} {e : Tm} {w : World} {ops : Array Oper} {l : List Oper} {S : World → Prop} {ls : List (Oper × Bool)} {B : World} {L L' : List As}
variable {d : Option Tmp} {ty : TypeId} {ps : String} {af : Array Edge} {g : Option (Nat × Bool)}
def Rd (w : World) (b off sz m : Nat) (xs : List Value) : Prop := xs.length = m * sz ∧ ∀ j u, xs[j]? = some u → w.cell? ⟨b, off + j, none⟩ = some u
theorem rd_osl {e : TypeId} {sz m b c : Nat} {xs : List Value} {O R : Nat → Prop} (h : (osl e sz (.slice (some ⟨b, 0, none⟩) m c) m xs).p w O R) : Rd w b 0 sz m xs :=
 ⟨h.1.1, fun j u hu => by
  have := h.1.cells (g := b) rfl j u hu
  rw [addr_add] at this; exact this⟩
theorem rd_rsl {sz m b o c : Nat} {xs : List Value} {O R : Nat → Prop} (h : (rsl sz (.slice (some ⟨b, o, none⟩) m c) m xs).p w O R) : Rd w b o sz m xs := by
 refine ⟨h.1.1, fun j u hu => ?_⟩
 rcases h.1.2 with ⟨h1, _⟩ | ⟨b', o', c', h1, _, _, _, h2⟩
 ·cases h1
 ·injection h1 with h1 _ _; injection h1 with h1; injection h1 with h3 h4; subst h3 h4; exact h2 j u hu
theorem SH.ro {e : TypeId} {sz m b c : Nat} {xs : List Value} (h : SH B w L) (m' : At L (osl e sz (.slice (some ⟨b, 0, none⟩) m c) m xs)) : Rd w b 0 sz m xs := by
 obtain ⟨_, _, h1⟩ := h.at_ m'; exact rd_osl h1
theorem SH.rr {sz m b o c : Nat} {xs : List Value} (h : SH B w L) (m' : At L (rsl sz (.slice (some ⟨b, o, none⟩) m c) m xs)) : Rd w b o sz m xs := by
 obtain ⟨_, _, h1⟩ := h.at_ m'; exact rd_rsl h1
theorem Hs.ro {Fs : List As} {e : TypeId} {sz m b c : Nat} {xs : List Value} (h : Hs Fs w) (m' : At Fs (osl e sz (.slice (some ⟨b, 0, none⟩) m c) m xs)) : Rd w b 0 sz m xs := by
 obtain ⟨_, _, h1⟩ := h _ m'; exact rd_osl h1
theorem Hs.rr {Fs : List As} {sz m b o c : Nat} {xs : List Value} (h : Hs Fs w) (m' : At Fs (rsl sz (.slice (some ⟨b, o, none⟩) m c) m xs)) : Rd w b o sz m xs := by
 obtain ⟨_, _, h1⟩ := h _ m'; exact rd_rsl h1
theorem Rd.i {b off m : Nat} {k : IntKind} {xs : List Int} (h : Rd w b off 1 m (xs.map (Value.int k))) {j : Nat} (hj : j < m) : w.cell? ⟨b, off + j * 1, none⟩ = some (.int k (xs.getD j 0)) := by
 have hl : j < xs.length := by have := h.1; simp at this; omega
 rw [Nat.mul_one]
 refine h.2 j _ ?_
 rw [List.getElem?_map, List.getElem?_eq_getElem hl, List.getD_eq_getElem?_getD, List.getElem?_eq_getElem hl]; rfl
theorem flat_get {α : Type} {enc : α → List Value} {sz : Nat} (he : ∀ x, (enc x).length = sz) : ∀ (xs : List α) (j i : Nat) (x : α), xs[j]? = some x → i < sz → (xs.flatMap enc)[j * sz + i]? = (enc x)[i]?
 | [], j, i, x, h, _ => by cases h
 | y :: xs, 0, i, x, h, hi => by
  simp only [List.getElem?_cons_zero, Option.some.injEq] at h
  subst h
  rw [List.flatMap_cons, Nat.zero_mul, Nat.zero_add, List.getElem?_append_left (by rw [he]; exact hi)]
 | y :: xs, j + 1, i, x, h, hi => by
  rw [List.getElem?_cons_succ] at h
  rw [List.flatMap_cons, List.getElem?_append_right (by rw [he, Nat.succ_mul]; omega), he, show (j + 1) * sz + i - sz = j * sz + i by rw [Nat.succ_mul]; omega]
  exact flat_get he xs j i x h hi
theorem flat_len {α : Type} {enc : α → List Value} {sz : Nat} (he : ∀ x, (enc x).length = sz) : ∀ xs : List α, (xs.flatMap enc).length = xs.length * sz
 | [] => by simp
 | y :: xs => by rw [List.flatMap_cons, List.length_append, he, flat_len he xs, List.length_cons, Nat.succ_mul]; omega
theorem Rd.x {α : Type} {b off m sz : Nat} {enc : α → List Value} {xs : List α} (h : Rd w b off sz m (xs.flatMap enc)) (he : ∀ x, (enc x).length = sz) (hs : 0 < sz) {j : Nat} (hj : j < m) (d : α) : ∀ i u, (enc (xs.getD j d))[i]? = some u → w.cell? ⟨b, off + j * sz + i, none⟩ = some u := fun i u hu => by
 have h1 : xs.length = m := by
  have := h.1; rw [flat_len he] at this
  exact Nat.eq_of_mul_eq_mul_right hs this
 have hi : i < sz := by rw [← he (xs.getD j d)]; exact (List.getElem?_eq_some_iff.1 hu).1
 rw [Nat.add_assoc]
 refine h.2 _ _ ?_
 rw [flat_get he xs j i (xs.getD j d) (by rw [List.getD_eq_getElem?_getD, List.getElem?_eq_getElem (by omega)]; rfl) hi]
 exact hu
theorem SH.fo {e : TypeId} {sz m : Nat} {v : Value} {xs : List Value} (h : SH B w L) (m' : At L (osl e sz v m xs)) : ∃ p c, v = .slice p m c := by
 obtain ⟨_, _, h1⟩ := h.at_ m'
 rcases h1.1.2 with ⟨h2, h3⟩ | ⟨g, cap, cur, h2, _⟩
 ·exact ⟨none, 0, by rw [h2, h3]⟩
 ·exact ⟨_, _, h2⟩
theorem SH.fp {e : TypeId} {sz m c : Nat} {p : Option Addr} {xs : List Value} (h : SH B w L) (m' : At L (osl e sz (.slice p m c) m xs)) (hm : 0 < m) : ∃ b, p = some ⟨b, 0, none⟩ := by
 obtain ⟨_, _, h1⟩ := h.at_ m'
 rcases h1.1.2 with ⟨h2, h3⟩ | ⟨g, cap, cur, h2, _⟩
 ·omega
 ·injection h2 with h2; exact ⟨g, h2⟩
theorem SH.fq {sz m c : Nat} {p : Option Addr} {xs : List Value} (h : SH B w L) (m' : At L (rsl sz (.slice p m c) m xs)) (hm : 0 < m) : ∃ b o, p = some ⟨b, o, none⟩ := by
 obtain ⟨_, _, h1⟩ := h.at_ m'
 rcases h1.1.2 with ⟨h2, h3⟩ | ⟨g, o, cap, h2, _⟩
 ·omega
 ·injection h2 with h2; exact ⟨g, o, h2⟩
theorem SH.lm {e : TypeId} {sz m : Nat} {v : Value} {xs : List Value} (h : SH B w L) (m' : At L (osl e sz v m xs)) : m ≤ maxLen := by
 obtain ⟨_, _, h1⟩ := h.at_ m'
 rcases h1.1.2 with ⟨h2, h3⟩ | ⟨g, cap, cur, h2, _, _, h3, h4, _⟩
 ·rw [h3]; exact Nat.zero_le _
 ·exact Nat.le_trans h3 h4
theorem SH.rl {sz m : Nat} {v : Value} {xs : List Value} (h : SH B w L) (m' : At L (rsl sz v m xs)) : xs.length = m * sz ∧ m ≤ maxLen := by
 obtain ⟨_, _, h1⟩ := h.at_ m'
 refine ⟨h1.1.1, ?_⟩
 rcases h1.1.2 with ⟨h2, h3⟩ | ⟨g, o, cap, h2, _, h3, h4, _⟩
 ·rw [h3]; exact Nat.zero_le _
 ·exact Nat.le_trans h3 h4
theorem ix {t el : TypeId} {x i : Operand} {b o m c sz j : Nat} {k : IntKind} (ht : P.underlying t = some (.slice el)) (hs : (P.info? el).map (·.size) = some sz) (hx : ev n e x = some (.slice (some ⟨b, o, none⟩) m c)) (hi : ev n e i = some (.int k (j : Nat))) (h1 : j < m) : Y P n e ⟨d, .indexAddr t x i, ty, ps, af, g⟩ w (.pointer (some ⟨b, o + j * sz, none⟩)) w := by
 have := ia (P := P) (n := n) (e := e) (w := w) (d := d) (ty := ty) (ps := ps) (af := af) (g := g) ht hs hx hi (by omega) (by omega)
 rwa [Int.toNat_natCast] at this
def sizes (P : Program) (t : TypeId) : Option (Value × Nat × Nat) := match P.info? t with
 | some i => i.zero.map fun v => (v, i.size, i.bytes)
 | none => none
theorem sizes_spec {t : TypeId} {z : Value} {sz bt : Nat} (h : sizes P t = some (z, sz, bt)) : ∃ i, P.info? t = some i ∧ i.zero = some z ∧ i.size = sz ∧ i.bytes = bt := by
 unfold sizes at h
 cases hi : P.info? t with
 | none => rw [hi] at h; cases h
 | some i =>
  rw [hi] at h
  dsimp only at h
  cases hv : i.zero with
  | none => rw [hv] at h; cases h
  | some v =>
   rw [hv] at h
   simp only [Option.map_some, Option.some.injEq, Prod.mk.injEq] at h
   exact ⟨i, rfl, by rw [hv, h.1], h.2.1, h.2.2⟩
theorem osl_step {el : TypeId} {sz m m' : Nat} {v v' : Value} {xs xs' : List Value} {w' : World} (h : SH B w L) (u : Upd L L' (osl el sz v m xs) (osl el sz v' m' xs')) (hg : w.grownBy w' v.ownBlock) (ho : w'.ownsRow 0 el sz v' m' xs') (hn : ∀ k, v'.ownBlock = some k → v.ownBlock = some k ∨ w.heap.size ≤ k) : SH B w' L' :=
 h.step u fun O R hA => ⟨fun k => v'.ownBlock = some k, fun _ => False, ⟨ho, fun _ => Iff.rfl, fun _ h => h⟩, ⟨⟨hg.os, hg.tape, hg.output⟩, hg.size, fun k hk hn => hg.block k hk fun e => hn ((hA.2.1 k).2 e.symm)⟩, fun k hk => (hn k hk).imp (fun h => (hA.2.1 k).2 h) id, fun _ h => h.elim⟩
theorem osl_new {el : TypeId} {sz m : Nat} {xs : List Value} {w' : World} {c : Nat} (h : SH B w L) (hg : w.grownBy w' none) (ho : w'.ownsRow 0 el sz (.slice (some ⟨w.heap.size, 0, none⟩) m c) m xs) : SH B w' (osl el sz (.slice (some ⟨w.heap.size, 0, none⟩) m c) m xs :: L) :=
 h.new ⟨⟨hg.os, hg.tape, hg.output⟩, hg.size, fun k hk _ => hg.block k hk (by simp)⟩ (O := fun k => Value.ownBlock (.slice (some ⟨w.heap.size, 0, none⟩) m c) = some k) (R := fun _ => False) ⟨ho, fun _ => Iff.rfl, fun _ h => h⟩ (fun k hk => by simp [Value.ownBlock] at hk; omega) (fun _ h => h.elim)
theorem mk {t el : TypeId} {x y : Operand} {z : Value} {sz bt m : Nat} {k k' : IntKind} (h : SH B w L) (ht : P.underlying t = some (.slice el)) (hz : sizes P el = some (z, sz, bt)) (hx : ev n e x = some (.int k (m : Nat))) (hy : ev n e y = some (.int k' (m : Nat))) (hb : bt * m ≤ 281474976710656) (h63 : m ≤ maxLen) :
  F P n e ⟨d, .makeSlice t x y, ty, ps, af, g⟩ w fun v w' => ∃ b, v = .slice (some ⟨b, 0, none⟩) m m ∧ SH B w' (osl el sz (.slice (some ⟨b, 0, none⟩) m m) m (madeCells z.cells (m * sz)).toList :: L) := by
 obtain ⟨i, h1, h2, h3, h4⟩ := sizes_spec hz
 obtain ⟨w', g1, g2, g3⟩ := run_make_full (P := P) w 0 t el i z sz ht h1 h2 h3 k k' m (by rw [h4]; exact hb) h63 (Nat.zero_le _)
 exact ⟨_, w', .inl fun a ha => by simp [execOp, ha.eval hx, ha.eval hy, g1], _, rfl, osl_new h g3 g2⟩
theorem zip_evs {a : Act} (ha : Fits n e a) : ∀ {ps : List (Nat × Operand)} {vs : List Value}, evs n e (ps.map (·.2)) = some vs → ps.map (fun p => (p.1, a.eval p.2)) = (ps.map (·.1)).zip vs
 | [], vs, h => by simp only [List.map_nil, evs, Option.some.injEq] at h; rw [← h]; rfl
 | q :: ps, vs, h => by
  rw [List.map_cons] at h
  unfold evs at h
  cases h1 : ev n e q.2 with
  | none => simp [h1] at h
  | some v => cases h2 : evs n e (ps.map (·.2)) with
   | none => simp [h1, h2] at h
   | some us =>
    simp only [h1, h2, Option.some.injEq] at h
    rw [← h, List.map_cons, zip_evs ha h2, ha.eval h1]; rfl
theorem bu {t el : TypeId} {m : Nat} {parts : Array (Nat × Operand)} {z : Value} {sz bt : Nat} {vs : List Value} (cs : List Value) (h : SH B w L) (ht : P.underlying t = some (.slice el)) (hz : sizes P el = some (z, sz, bt))
  (hp : evs n e (parts.toList.map (·.2)) = some vs)
  (hc : Instr.fill (fun i => some (i * sz, sz)) ((Array.range (m * sz)).map ((if m * sz = 0 then #[] else z.cells)[· % (if m * sz = 0 then #[] else z.cells).size]!)) ((parts.toList.map (·.1)).zip vs) = some cs.toArray) (hl : cs.length = m * sz) (hm : m * sz ≤ 16777216) (h63 : m ≤ maxLen) :
  F P n e ⟨d, .buildSlice t m parts, ty, ps, af, g⟩ w fun v w' => ∃ b, v = .slice (some ⟨b, 0, none⟩) m m ∧ SH B w' (osl el sz (.slice (some ⟨b, 0, none⟩) m m) m cs :: L) := by
 obtain ⟨i, h1, h2, h3, h4⟩ := sizes_spec hz
 subst h3
 have hn : ¬ (m * i.size > 2 ^ 24) := by omega
 refine ⟨.slice (some ⟨w.heap.size, 0, none⟩) m m, w.alloc (.cells cs.toArray el), .inl fun a ha => ?_, _, rfl, osl_new h (World.grownBy_alloc w _ none) ⟨hl, .inr ⟨w.heap.size, m, cs.toArray, rfl, Nat.zero_le _, heap_alloc_new w _, Nat.le_refl _, h63, by simpa using hl, by rw [← hl]; simp⟩⟩⟩
 obtain ⟨pv, hpv⟩ : ∃ pv, (parts.toList.map (·.1)).zip vs = pv := ⟨_, rfl⟩
 rw [hpv] at hc
 have hpp : (parts.map fun (p : Nat × Operand) => (p.1, a.eval p.2)) = pv.toArray := by
  apply Array.ext'; rw [Array.toList_map, ← hpv]; exact zip_evs ha hp
 simp only [execOp, Instr.buildSlice, Sem.run_bind, run_underlying ht, Result.andThen_ok, sizeOf, typeInfo]
 have hpp' : (parts.map fun (i, x) => (i, a.eval x)) = pv.toArray := hpp
 by_cases h0 : m * i.size = 0
 ·rw [if_pos h0] at hc
  simp [h1, h0, hpp', newRow]
  rw [h0] at hc
  simp at hc
  simp [hc]
 ·rw [if_neg h0] at hc
  simp [h1, h0, hn, hpp', newRow, zeroValue, typeInfo, h2]
  simp [hc]
theorem ap {t el : TypeId} {ats : Array TypeId} {x y : Operand} {z v : Value} {sz bt m k c b o q : Nat} {xs news zs : List Value} {L' : Value → List As} (h : SH B w L) (ht : P.underlying t = some (.slice el)) (h0 : ats = #[t, t]) (hz : sizes P el = some (z, sz, bt)) (hzs : z.cells.size = sz) (hsz : 0 < sz)
  (hx : ev n e x = some v) (hy : ev n e y = some (.slice (some ⟨b, o, none⟩) k c)) (up : ∀ v', Upd L (L' v') (osl el sz v m xs) (osl el sz v' q zs)) (hr : Rd w b o sz k news) (h1 : ∀ u ∈ news, Value.oneCell' u = true) (hq : m + k = q) (hxs : xs ++ news = zs) (h63 : q ≤ maxLen) (hb : q * bt ≤ 140737488355328) :
  F P n e ⟨d, .call ⟨.builtin .append, #[x, y], ats⟩, ty, ps, af, g⟩ w fun v w' => ∃ p c, v = .slice p q c ∧ SH B w' (L' v) := by
 subst h0 hq hxs
 obtain ⟨i, g1, g2, g3, g4⟩ := sizes_spec hz
 obtain ⟨mm, m0, m1, _⟩ := (up v).ix
 have hown : w.ownsRow 0 el sz v m xs := by obtain ⟨_, O, R, hp, _⟩ := h; exact (hp mm _ m1).1
 obtain ⟨v', w', r1, r2, r3, r4, r5⟩ := run_append_own_at (P := P) w 0 t ty el i z sz bt ht g1 g2 g3 g4 hzs hsz v m xs hown ⟨b, o, none⟩ k c news hr.1 (fun j u hu => by rw [addr_add]; exact hr.2 j u hu) h1 h63 hb (Nat.zero_le _)
 have hf : ∃ p c, v' = .slice p (m + k) c := by
  rcases r2.2 with ⟨h2, h3⟩ | ⟨g, cap, cur, h2, _⟩
  ·exact ⟨none, 0, by rw [h2, h3]⟩
  ·exact ⟨_, _, h2⟩
 obtain ⟨p, c', hv⟩ := hf
 refine ⟨v', w', .inl fun a ha => ?_, p, c', hv, osl_step h (up v') r3 r2 fun j hj => r5.elim (fun e => .inl (e ▸ hj)) fun e => .inr ?_⟩
 ·simp [execOp, resolve, invoke, builtin, ha.eval hx, ha.eval hy, r1]
 ·rw [e] at hj; injection hj with hj; omega
theorem drop_getD {α : Type} {l : List α} {k : Nat} (h : k < l.length) (d : α) : l.drop k = l.getD k d :: l.drop (k + 1) := by
 rw [List.getD_eq_getElem?_getD, List.getElem?_eq_getElem h]; exact List.drop_eq_getElem_cons h
theorem ap0 {t el : TypeId} {ats : Array TypeId} {x y : Operand} {z v : Value} {sz bt m : Nat} {xs : List Value} (h : SH B w L) (m' : At L (osl el sz v m xs)) (ht : P.underlying t = some (.slice el)) (h0 : ats = #[t, t]) (hz : sizes P el = some (z, sz, bt)) (hx : ev n e x = some v) (hy : ev n e y = some (.slice none 0 0)) :
  Y P n e ⟨d, .call ⟨.builtin .append, #[x, y], ats⟩, ty, ps, af, g⟩ w v w := fun a ha => by
 subst h0
 obtain ⟨i, g1, g2, g3, g4⟩ := sizes_spec hz
 obtain ⟨_, _, hA⟩ := h.at_ m'
 have hown := hA.1
 rcases hown.2 with ⟨h2, h3⟩ | ⟨g, cap, cur, h2, _, h4, h5, _⟩
 ·subst h2; subst h3
  simp [execOp, resolve, invoke, builtin, ha.eval hx, ha.eval hy, Builtin.append_, run_underlying ht, sizeOf, typeInfo, g1, Builtin.lenOf, Builtin.firstCells]
 ·subst h2
  have hst : (storeCells ((⟨g, 0, none⟩ : Addr).add (m * i.size)) []).run P w = .ok () w := rfl
  simp [execOp, resolve, invoke, builtin, ha.eval hx, ha.eval hy, Builtin.append_, run_underlying ht, sizeOf, typeInfo, g1, Builtin.lenOf, Builtin.firstCells, h5, storeCells]
theorem soi {t el : TypeId} {x y : Operand} {b c m j : Nat} {k : IntKind} {a : Int} {xs : List Int} (h : SH B w L) (hT : (P.info? t).map (·.size) = some 1) (hx : ev n e x = some (.pointer (some ⟨b, 0 + j * 1, none⟩))) (hy : ev n e y = some (.int k a)) (hj : j < m)
  (up : Upd L L' (osl el 1 (.slice (some ⟨b, 0, none⟩) m c) m (xs.map (Value.int k))) (osl el 1 (.slice (some ⟨b, 0, none⟩) m c) m ((xs.set j a).map (Value.int k)))) : F P n e ⟨d, .store t x y, ty, ps, af, g⟩ w fun _ w' => SH B w' L' := by
 obtain ⟨mm, m0, m1, _⟩ := up.ix
 have hown : w.ownsRow 0 el 1 (.slice (some ⟨b, 0, none⟩) m c) m (xs.map (Value.int k)) := by obtain ⟨_, O, R, hp, _⟩ := h; exact (hp mm _ m1).1
 obtain ⟨o1, o2⟩ := hown.stored j (.int k a)
 refine ⟨undef, w.setCell ⟨b, j, none⟩ (.int k a), .inr ⟨fun f hf => ?_, rfl⟩, osl_step h up o2 (by rw [List.map_set]; exact o1) fun k hk => .inl hk⟩
 have hc := World.ownsRow.cellAt hown j (by omega)
 have hfz := World.ownsRow.frozenAt hown j
 have hl : xs.length = m := by have := hown.1; simpa using this
 rw [List.getElem?_map, List.getElem?_eq_getElem (by omega)] at hc
 cases hq : P.info? t with
 | none => rw [hq] at hT; cases hT
 | some i =>
  rw [hq] at hT
  have h4 : i.size = 1 := by simpa using hT
  rw [Nat.zero_add, Nat.mul_one] at hx
  have h5 : (⟨b, j, none⟩ : Addr).add 0 = ⟨b, j, none⟩ := rfl
  simp [execOp, hf.eval hx, hf.eval hy, Instr.storeAt, Instr.sureAddr, storeVar, sizeOf, typeInfo, hq, h4, Value.cells, storeCells, store, Sem.run, h5, hc, hfz]
theorem bneF {a b : Int} (h : a = b) : (a != b) = false := by rw [bne_eq_false_iff_eq]; exact h
theorem eq_of_bneF {a b : Int} (h : (a != b) = false) : a = b := by rwa [bne_eq_false_iff_eq] at h
theorem rows_sub {b o : Nat} {cs : List Value} (h : ∀ j v, cs[j]? = some v → w.cell? ⟨b, o + j, none⟩ = some v) (i : Nat) {c2 : List Value} (hc : (cs.drop i).take c2.length = c2) : ∀ j v, c2[j]? = some v → w.cell? ⟨b, o + i + j, none⟩ = some v := fun j v hj => by
 have hl := (List.getElem?_eq_some_iff.1 hj).1
 rw [← hc, List.getElem?_take, if_pos hl, List.getElem?_drop] at hj
 rw [Nat.add_assoc]; exact h _ _ hj
theorem ones_ints {k : IntKind} (xs : List Int) : ∀ u ∈ xs.map (Value.int k), Value.oneCell' u = true := fun u hu => by
 obtain ⟨x, _, rfl⟩ := List.mem_map.1 hu; rfl
theorem SH.nil (el : TypeId) (sz : Nat) (h : SH B w L) : SH B w (osl el sz (.slice none 0 0) 0 [] :: L) :=
 h.new (Kp.refl _ _) (O := fun _ => False) (R := fun _ => False) ⟨World.ownsRow_nil _ _ _ _, fun k => by simp [Value.ownBlock], fun _ h => h⟩ (fun _ h => h.elim) (fun _ h => h.elim)
theorem SH.nilr (sz : Nat) (h : SH B w L) : SH B w (rsl sz (.slice none 0 0) 0 [] :: L) :=
 h.new (Kp.refl _ _) (O := fun _ => False) (R := fun _ => False) ⟨⟨by simp, .inl ⟨rfl, rfl⟩⟩, fun _ h => h, fun k => by simp [Value.ownBlock]⟩ (fun _ h => h.elim) (fun _ h => h.elim)
theorem join_rows {α : Type} {enc : α → List Value} (xs : List α) (a : α) : xs.flatMap enc ++ enc a = (xs ++ [a]).flatMap enc := by simp
def bdn (P : Program) (t : TypeId) : Option (List Value × List (Nat × Nat)) := match P.info? t, P.underlying t with
 | some i, some (.struct fs) => match i.zero with
  | some z => (fs.toList.mapM fun f => (P.info? f.type).map fun i => (f.offset, i.size)).map fun l => (z.cells.toList, l)
  | none => none
 | _, _ => none
theorem bd {t : TypeId} {parts : Array (Nat × Operand)} {zs : List Value} {pl : List (Nat × Nat)} {vs : List Value} (cs : List Value) (hb : bdn P t = some (zs, pl)) (hp : evs n e (parts.toList.map (·.2)) = some vs)
  (hc : Instr.fill (fun i => pl[i]?) zs.toArray ((parts.toList.map (·.1)).zip vs) = some cs.toArray) : Y P n e ⟨d, .build t parts, ty, ps, af, g⟩ w (.agg cs.toArray) w := fun a ha => by
 obtain ⟨pv, hpv⟩ : ∃ pv, (parts.toList.map (·.1)).zip vs = pv := ⟨_, rfl⟩
 rw [hpv] at hc
 have hpp : (parts.map fun (p : Nat × Operand) => (p.1, a.eval p.2)) = pv.toArray := by
  apply Array.ext'; rw [Array.toList_map, ← hpv]; exact zip_evs ha hp
 unfold bdn at hb
 cases hi : P.info? t with
 | none => rw [hi] at hb; cases hb
 | some i =>
  cases hd : P.underlying t with
  | none => rw [hi, hd] at hb; cases hb
  | some dd =>
   rw [hi, hd] at hb
   cases dd <;> try (cases hb; done)
   rename_i fs
   dsimp only at hb
   cases hz : i.zero with
   | none => rw [hz] at hb; cases hb
   | some z =>
    rw [hz] at hb
    dsimp only at hb
    cases hm : (fs.toList.mapM fun f => (P.info? f.type).map fun i => (f.offset, i.size)) with
    | none => rw [hm] at hb; cases hb
    | some l2 =>
     rw [hm] at hb
     simp only [Option.map_some, Option.some.injEq, Prod.mk.injEq] at hb
     obtain ⟨e1, e2⟩ := hb
     subst e2
     have hmm : ∀ (fl : List Field) (l2 : List (Nat × Nat)), (fl.mapM fun f => (P.info? f.type).map fun i => (f.offset, i.size)) = some l2 → (fl.mapM fun f => (do pure (f.offset, ← sizeOf f.type) : Sem (Nat × Nat))).run P w = .ok l2 w := by
      intro fl
      induction fl with
      | nil => intro l2 h; simp only [List.mapM_nil, Option.pure_def, Option.some.injEq] at h; rw [← h]; rfl
      | cons f fl ih =>
       intro l2 h
       rw [List.mapM_cons] at h
       cases hq : P.info? f.type with
       | none => rw [hq] at h; cases h
       | some inf =>
        rw [hq] at h
        cases hr : (fl.mapM fun f => (P.info? f.type).map fun i => (f.offset, i.size)) with
        | none => rw [hr] at h; cases h
        | some l3 =>
         rw [hr] at h
         simp only [Option.map_some, Option.bind_eq_bind, Option.bind_some, Option.pure_def, Option.some.injEq] at h
         have h0 : (do pure (f.offset, ← sizeOf f.type) : Sem (Nat × Nat)).run P w = .ok (f.offset, inf.size) w := by simp [sizeOf, typeInfo, hq]
         rw [← h, List.mapM_cons, Sem.run_bind, h0, Result.andThen_ok, Sem.run_bind, ih l3 hr]
         rfl
     have h1 := hmm fs.toList l2 hm
     have h2 : (fs.mapM fun f => (do pure (f.offset, ← sizeOf f.type) : Sem (Nat × Nat))).run P w = .ok l2.toArray w := by
      rw [Array.mapM_eq_mapM_toList]
      change ((fs.toList.mapM fun f => (do pure (f.offset, ← sizeOf f.type) : Sem (Nat × Nat))) >>= fun l => pure l.toArray : Sem _).run P w = _
      rw [Sem.run_bind, h1]; rfl
     have hpp' : (parts.map fun (i, x) => (i, a.eval x)) = pv.toArray := hpp
     have e1' : z.cells = zs.toArray := by rw [← e1]
     have h3 : (zeroValue t).run P w = .ok z w := by simp [zeroValue, typeInfo, hi, hz]
     have h4 : (Instr.build t pv.toArray).run P w = .ok (.agg cs.toArray) w := by
      unfold Instr.build
      rw [Sem.run_bind, h3, Result.andThen_ok, Sem.run_bind, run_underlying hd, Result.andThen_ok]
      dsimp only
      rw [Sem.run_bind, h2, Result.andThen_ok, e1']
      have hc' : Instr.fill (l2.toArray[·]?) zs.toArray pv = some cs.toArray := by rw [← hc]; congr 1; funext j; simp
      simp only [hc']
      rfl
     simp only [execOp, hpp', Sem.run_bind, h4, Result.andThen_ok]
     rfl
end Go.E
end
