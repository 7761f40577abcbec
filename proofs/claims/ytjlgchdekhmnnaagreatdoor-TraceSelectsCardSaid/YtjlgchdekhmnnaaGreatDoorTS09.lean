/- Parts of a proof: E8, E9, Tys. -/
import Derived.Test.YtjlgchdekhmnnaaGreatDoorTS08
import Derived.Laws.MakeOwn
import Derived.Test.YtjlgchdekhmnnaaGreatDoorTS05
import Derived.Test.YtjlgchdekhmnnaaGreatDoorTS06
import Derived.Test.YtjlgchdekhmnnaaGreatDoorTS07
set_option linter.unusedVariables false
set_option linter.unusedSimpArgs false
section
namespace Go.E
variable {P : Program} {n : Nat} {K : Post} {e : Tm} {w : World} {ops : Array Oper} {l : List Oper} {S : World → Prop} {ls : List (Oper × Bool)} {B : World} {L L' : List As}
theorem wpQ {o : Oper} {a : Act} {R : Act → World → Prop} {Q Q' : Exit → Act → World → Prop} (h1 : ∀ c a w, Q' (.panic c) a w → Q (.panic c) a w) (h2 : LetsOut Q' → LetsOut Q) (h : o.wp P a w R Q') : o.wp P a w R Q := by
 unfold Oper.wp at h ⊢
 generalize (execOp a.eval o).run P w = r at *
 cases r with
 | ok x w' =>
  cases x <;> simp only [Oper.upon] at h ⊢ <;> first
   | exact h
   | (refine Calls.mono h fun e w'' he => ?_; cases e <;> first | exact he | exact h1 _ _ _ he | exact h2 he)
 | halt x w' => cases x <;> simp only [Oper.upon] at h ⊢ <;> first | exact h1 _ _ _ h | exact h
def wpAnyZ (P : Program) (md : Region.Mode) (ops : Array Oper) (Q : Exit → Act → World → Prop) (S : World → Prop) (z : Nat) : Nat → Array Bool → Act → World → Prop
 | 0, listed, a, w => Region.ready md ops listed = [] ∧ Q .normal a w
 | fuel + 1, listed, a, w =>
  (Region.ready md ops listed = [] → Q .normal a w) ∧
  ∀ i ∈ Region.ready md ops listed, wpOp P ops Q i (fun a' w' => (i ≠ z → S w') ∧ wpAnyZ P md ops Q S z fuel (listed.setIfInBounds i true) a' w') a w
variable {md : Region.Mode} {Q : Exit → Act → World → Prop} {z : Nat}
theorem wpAny_of_Z : ∀ (fuel : Nat) (listed : Array Bool) (a : Act) (w : World), wpAnyZ P md ops Q S z fuel listed a w → wpAny P md ops Q fuel listed a w
 | 0, _, _, _, h => h
 | fuel + 1, _, _, _, h => ⟨h.1, fun i hi => wpOp_mono (fun a' w' h' => wpAny_of_Z fuel _ a' w' h'.2) (h.2 i hi)⟩
theorem wpAnyZ_first {i : Nat} {oi : Oper} {v : Value} (hi : ops[i]? = some oi) (hiz : i ≠ z) (hz : ∀ oz, ops[z]? = some oz → ∃ e ∈ oz.after, Region.binds md e = true ∧ e.on = i) (hsel : ∀ (j : Nat) (o : Oper) cs b, ops[j]? = some o → o.op ≠ .select cs b)
  (hQ : ∀ c a w, Q (.panic c) (a.put oi.dst v) w → Q (.panic c) a w) :
  ∀ (fuel : Nat) (listed : Array Bool) (a : Act) (w : World),
   (∀ j oj, ops[j]? = some oj → j ≠ i → listed.getD j true = false → (∀ e ∈ oj.after, Region.binds md e = true → e.on ≠ i) → oi.apart ops oj = true) →
   i ∈ Region.ready md ops listed → YieldsIf P ops S oi v a → S w →
   wpAnyZ P md ops Q S z fuel (listed.setIfInBounds i true) (a.put oi.dst v) w → wpAnyZ P md ops Q S z (fuel + 1) listed a w := by
 intro fuel
 induction fuel with
 | zero =>
  intro listed a w _ hr hy hS H
  refine ⟨fun h => (by rw [h] at hr; cases hr), fun j hj => ?_⟩
  by_cases hji : j = i
  ·subst hji; exact hy.wpOp hi hS ⟨fun _ => hS, H⟩
  ·have := ready_mono hj hji
   rw [H.1] at this
   cases this
 | succ fuel ih =>
  intro listed a w hfree hr hy hS H
  refine ⟨fun h => (by rw [h] at hr; cases hr), fun j hj => ?_⟩
  by_cases hji : j = i
  ·subst hji; exact hy.wpOp hi hS ⟨fun _ => hS, H⟩
  ·have h1 := H.2 j (ready_mono hj hji)
   obtain ⟨hjun, oj, hoj, hall⟩ := mem_ready.1 hj
   have hnot : ∀ e ∈ oj.after, Region.binds md e = true → e.on ≠ i := fun e he hb heq => by
    have h1 := hall e he hb
    have h0 := (mem_ready.1 hr).1
    rw [heq] at h1
    rcases Nat.lt_or_ge i listed.size with h' | h'
    ·simp [h'] at h0 h1; rw [h0] at h1; cases h1
    ·simp [Array.getElem?_eq_none h'] at h1
   have hjz : j ≠ z := fun ez => by
    subst ez
    obtain ⟨e, he, hb, hei⟩ := hz oj hoj
    exact hnot e he hb hei
   have h2 := wpOp_putIf hoj (hfree j oj hoj hji hjun hnot) (fun cs b => hsel i oi cs b hi) (fun cs b => hsel j oj cs b hoj) hQ hy h1
   have hfree' : ∀ k ok, ops[k]? = some ok → k ≠ i → (listed.setIfInBounds j true).getD k true = false →
     (∀ e ∈ ok.after, Region.binds md e = true → e.on ≠ i) → oi.apart ops ok = true := fun k ok hk hki hun hno => by
    refine hfree k ok hk hki ?_ hno
    by_cases hjk : j = k
    ·subst hjk; exact hjun
    ·rw [getD_set_ne true hjk] at hun; exact hun
   refine wpOp_mono (fun a' w' h3 => ⟨h3.2.1, ih (listed.setIfInBounds j true) a' w' hfree' (ready_mono hr (Ne.symm hji)) h3.1 (h3.2.1 hjz) ?_⟩) h2
   rw [Array.setIfInBounds_comm _ _ hji]
   exact h3.2.2
def waits (md : Region.Mode) (ops : Array Oper) (z i : Nat) : Bool := match ops[z]? with
 | some oz => oz.after.any fun e => Region.binds md e && Nat.beq e.on i
 | none => false
theorem waits_spec {i : Nat} (h : waits md ops z i = true) : ∀ oz, ops[z]? = some oz → ∃ e ∈ oz.after, Region.binds md e = true ∧ e.on = i := fun oz ho => by
 unfold waits at h
 rw [ho] at h
 obtain ⟨k, hk, h1⟩ := Array.any_eq_true.1 h
 simp only [Bool.and_eq_true] at h1
 exact ⟨oz.after[k], Array.getElem_mem hk, h1.1, Nat.eq_of_beq_eq_true h1.2⟩
def chkZ (ops : Array Oper) (z : Nat) : List (Nat × Bool) → Array Bool → Bool
 | [], listed => (Region.ready .any ops listed == [z]) && (Region.ready .any ops (listed.setIfInBounds z true) == [])
 | (i, true) :: is, listed => (!Nat.beq i z) && waits .any ops z i && Region.free .any ops listed i && (Region.ready .any ops listed).contains i && chkZ ops z is (listed.setIfInBounds i true)
 | (i, false) :: is, listed => (!Nat.beq i z) && (Region.ready .any ops listed == [i]) && chkZ ops z is (listed.setIfInBounds i true)
def zK (P : Program) (n : Nat) (ops : Array Oper) (oz : Oper) (K : Post) : Post
 | .normal, e, w => X P n ops [oz] K e w
 | x, e, w => K x e w
theorem beq_ne {i z : Nat} (h : (!Nat.beq i z) = true) : i ≠ z := fun e => by subst e; rw [Nat.beq_refl] at h; cases h
theorem wpS_Z (hs : Region.noSelect ops = true) (hz : z < ops.size) : ∀ (is : List (Nat × Bool)) (listed : Array Bool) (a : Act) (w : World),
  chkZ ops z is listed = true → (∀ p ∈ is, p.1 < ops.size) → S w → wpS P ops (lift n (zK P n ops (ops.getD z default) K)) S (opsOf ops is) a w → wpAnyZ P .any ops (lift n K) S z (is.length + 1) listed a w
 | [], listed, a, w, hc, _, _, h => by
  simp only [chkZ, Bool.and_eq_true, beq_iff_eq] at hc
  refine ⟨fun h0 => (by rw [hc.1] at h0; cases h0), fun j hj => ?_⟩
  rw [hc.1] at hj
  have hj : j = z := by simpa using hj
  subst hj
  have hd : ops.getD j default = ops[j] := by simp [Array.getD, hz]
  have ho : ops[j]? = some (ops.getD j default) := by rw [hd]; simp [hz]
  obtain ⟨e, h1, h2⟩ := h
  have h3 : wpL P ops (lift n K) [ops.getD j default] a w := h2 a h1
  unfold wpL at h3
  unfold wpOp
  rw [ho]
  dsimp only
  have key : ∀ a' w', lift n K .normal a' w' → (j ≠ j → S w') ∧ wpAnyZ P .any ops (lift n K) S j 0 (listed.setIfInBounds j true) a' w' := fun a' w' hq => ⟨fun hn => absurd rfl hn, hc.2, hq⟩
  by_cases hw : Region.wanted (ops.getD j default) (yielded ops a.tmps) = true
  ·rw [if_pos hw] at h3
   rw [if_pos hw]
   exact .inl (Oper.wp_mono (fun a w hh => key a w hh) h3)
  ·rw [if_neg hw] at h3
   rw [if_neg hw]
   exact key _ _ h3
 | (i, true) :: is, listed, a, w, hc, hi, hS, h => by
  simp only [chkZ, Bool.and_eq_true] at hc
  obtain ⟨v, h1, h2⟩ := h
  have hlt : i < ops.size := hi (i, true) (by simp)
  have hd : ops.getD i default = ops[i] := by simp [Array.getD, hlt]
  have ho : ops[i]? = some (ops.getD i default) := by rw [hd]; simp [hlt]
  exact wpAnyZ_first ho (beq_ne hc.1.1.1.1) (waits_spec hc.1.1.1.2) (Region.noSelect_spec hs) (fun c a w hq => absurd hq (fun h => h)) _ _ _ _ (Region.free_spec ho hc.1.1.2) (by simpa using hc.1.2) h1 hS (wpS_Z hs hz is _ _ _ hc.2 (fun p hp => hi p (by simp [hp])) hS h2)
 | (i, false) :: is, listed, a, w, hc, hi, hS, h => by
  simp only [chkZ, Bool.and_eq_true, beq_iff_eq] at hc
  have hlt : i < ops.size := hi (i, false) (by simp)
  have hd : ops.getD i default = ops[i] := by simp [Array.getD, hlt]
  have ho : ops[i]? = some (ops.getD i default) := by rw [hd]; simp [hlt]
  have hi' : ∀ p ∈ is, p.1 < ops.size := fun p hp => hi p (by simp [hp])
  refine ⟨fun h0 => (by rw [hc.1.2] at h0; cases h0), fun j hj => ?_⟩
  rw [hc.1.2] at hj
  have hj : j = i := by simpa using hj
  rw [hj]
  clear hj
  unfold wpOp
  rw [ho]
  dsimp only
  unfold opsOf at h
  rw [List.map_cons] at h
  unfold wpS at h
  dsimp only at h
  by_cases hw : Region.wanted (ops.getD i default) (yielded ops a.tmps) = true
  ·rw [if_pos hw] at h ⊢
   refine .inl (wpQ (Q' := lift n (zK P n ops (ops.getD z default) K)) (fun _ _ _ h => h) (fun h => h) (Oper.wp_mono (fun a w hh => ⟨fun _ => hh.1, wpS_Z hs hz is _ _ _ hc.2 hi' hh.1 hh.2⟩) h))
  ·rw [if_neg hw] at h ⊢
   exact ⟨fun _ => hS, wpS_Z hs hz is _ _ _ hc.2 hi' hS h⟩
def chkAllZ (P : Program) (ops : Array Oper) (is : List (Nat × Bool)) (z : Nat) : Bool :=
 P.follows .mixedOrders && Region.noSelect ops && (is.all fun p => Nat.blt p.1 ops.size) && Nat.blt z ops.size && is.length + 1 == ops.size && chkZ ops z is (Array.replicate ops.size false)
theorem drZ {id : Nat} {F : List As} (is : List Nat) (z : Nat) (hc : chkAllZ P ops (dec is) z = true) (h : SH B w L) (p : ∀ w, SH B w L → Hs F w) (k : ∀ w, SH B w L → XS P n ops (Hs F) (opsOf ops (dec is)) (zK P n ops (ops.getD z default) K) e w) : C P n (.region id ops true) K e w := fun a ha => by
 simp only [chkAllZ, Bool.and_eq_true, beq_iff_eq, List.all_eq_true] at hc
 obtain ⟨⟨⟨⟨⟨h1, h2⟩, h3⟩, h6⟩, h4⟩, h5⟩ := hc
 refine wp_region_any h1 ?_
 have hd := h.drew
 have := wpS_Z (P := P) (K := K) (S := Hs F) (n := n) h2 (blt_lt.1 h6) (dec is) _ a w.drew h5 (fun p hp => blt_lt.1 (h3 p hp)) (p _ hd) (k _ hd a ha)
 rw [h4] at this
 exact wpAny_of_Z _ _ _ _ this
theorem xzZ (h : X P n ops [ops.getD z default] K e w) : XS P n ops S [] (zK P n ops (ops.getD z default) K) e w := xz h
variable {d : Option Tmp} {ty : TypeId} {ps : String} {af : Array Edge} {g : Option (Nat × Bool)}
theorem mk0 {t el : TypeId} {x y : Operand} {z : Value} {sz bt m : Nat} {k k' : IntKind} (h : SH B w L) (ht : P.underlying t = some (.slice el)) (hz : sizes P el = some (z, sz, bt)) (hx : ev n e x = some (.int k 0)) (hy : ev n e y = some (.int k' (m : Nat))) (hb : bt * m ≤ 281474976710656) (h63 : m ≤ maxLen) :
  F P n e ⟨d, .makeSlice t x y, ty, ps, af, g⟩ w fun v w' => ∃ b, v = .slice (some ⟨b, 0, none⟩) 0 m ∧ SH B w' (osl el sz (.slice (some ⟨b, 0, none⟩) 0 m) 0 [] :: L) := by
 obtain ⟨i, h1, h2, h3, h4⟩ := sizes_spec hz
 obtain ⟨w', g1, g2, g3⟩ := run_make_own (P := P) w 0 t el i z sz ht h1 h2 h3 k k' m (by rw [h4]; exact hb) h63 (Nat.zero_le _)
 exact ⟨_, w', .inl fun a ha => by simp [execOp, ha.eval hx, ha.eval hy, g1], _, rfl, osl_new h g3 g2⟩
end Go.E
end
section
namespace Go.E
variable {P : Program} {n : Nat} {K : Post} {e : Tm} {w : World} {ops : Array Oper} {l : List Oper} {S : World → Prop} {ls : List (Oper × Bool)} {B : World} {L L' : List As}
def chkB (ops : Array Oper) (i j : Nat) (q1 q2 : List (Nat × Bool)) : List (Nat × Bool) → Array Bool → Bool
 | [], listed => (Region.ready .any ops listed == [i, j]) && chk ops q1 (listed.setIfInBounds i true) && chk ops q2 (listed.setIfInBounds j true)
 | (k, true) :: is, listed => Region.free .any ops listed k && (Region.ready .any ops listed).contains k && chkB ops i j q1 q2 is (listed.setIfInBounds k true)
 | (k, false) :: is, listed => (Region.ready .any ops listed == [k]) && chkB ops i j q1 q2 is (listed.setIfInBounds k true)
def bK (P : Program) (n : Nat) (ops : Array Oper) (S : World → Prop) (i j : Nat) (q1 q2 : List (Nat × Bool)) (K : Post) : Post
 | .normal, e, w => XS P n ops S (opsOf ops ((i, false) :: q1)) K e w ∧ XS P n ops S (opsOf ops ((j, false) :: q2)) K e w
 | x, e, w => K x e w
theorem wpS_one (hs : Region.noSelect ops = true) {i : Nat} {q : List (Nat × Bool)} {listed : Array Bool} {a : Act} {w : World} (hi : i < ops.size) (hq : ∀ p ∈ q, p.1 < ops.size) (hc : chk ops q (listed.setIfInBounds i true) = true) (hS : S w)
  (h : wpS P ops (lift n K) S (opsOf ops ((i, false) :: q)) a w) : wpOp P ops (lift n K) i (fun a' w' => S w' ∧ wpAnyH P .any ops (lift n K) S q.length (listed.setIfInBounds i true) a' w') a w := by
 have hd : ops.getD i default = ops[i] := by simp [Array.getD, hi]
 have ho : ops[i]? = some (ops.getD i default) := by rw [hd]; simp [hi]
 unfold wpOp
 rw [ho]
 dsimp only
 unfold opsOf at h
 rw [List.map_cons] at h
 unfold wpS at h
 dsimp only at h
 by_cases hw : Region.wanted (ops.getD i default) (yielded ops a.tmps) = true
 ·rw [if_pos hw] at h ⊢
  exact .inl (Oper.wp_mono (fun a w hh => ⟨hh.1, wpS_any hs (fun c a w hq => hq) q _ _ _ hc hq hh.1 hh.2⟩) h)
 ·rw [if_neg hw] at h ⊢
  exact ⟨hS, wpS_any hs (fun c a w hq => hq) q _ _ _ hc hq hS h⟩
theorem wpS_B {i j : Nat} {q1 q2 : List (Nat × Bool)} (hs : Region.noSelect ops = true) (hi : i < ops.size) (hj : j < ops.size) (h1 : ∀ p ∈ q1, p.1 < ops.size) (h2 : ∀ p ∈ q2, p.1 < ops.size) (hl : q2.length = q1.length) : ∀ (is : List (Nat × Bool)) (listed : Array Bool) (a : Act) (w : World),
  chkB ops i j q1 q2 is listed = true → (∀ p ∈ is, p.1 < ops.size) → S w → wpS P ops (lift n (bK P n ops S i j q1 q2 K)) S (opsOf ops is) a w → wpAnyH P .any ops (lift n K) S (is.length + 1 + q1.length) listed a w
 | [], listed, a, w, hc, _, hS, h => by
  simp only [chkB, Bool.and_eq_true, beq_iff_eq] at hc
  obtain ⟨e, g1, g2, g3⟩ := h
  rw [show ([] : List (Nat × Bool)).length + 1 + q1.length = q1.length + 1 by simp; omega]
  refine wpAnyH_all hc.1.1 (by simp) ?_
  intro k hk
  rcases List.mem_cons.1 hk with hk | hk
  ·subst hk
   exact wpS_one hs hi h1 hc.1.2 hS (g2 a g1)
  ·have hk : k = j := by simpa using hk
   subst hk
   have := wpS_one (listed := listed) hs hj h2 hc.2 hS (g3 a g1)
   rw [hl] at this
   exact this
 | (k, true) :: is, listed, a, w, hc, hb, hS, h => by
  simp only [chkB, Bool.and_eq_true] at hc
  obtain ⟨v, g1, g2⟩ := h
  have hlt : k < ops.size := hb (k, true) (by simp)
  have hd : ops.getD k default = ops[k] := by simp [Array.getD, hlt]
  have ho : ops[k]? = some (ops.getD k default) := by rw [hd]; simp [hlt]
  rw [show ((k, true) :: is).length + 1 + q1.length = (is.length + 1 + q1.length) + 1 by simp; omega]
  exact wpAnyH_take ho hs hc.1.1 hc.1.2 (fun c a w hq => hq.elim) g1 hS (wpS_B hs hi hj h1 h2 hl is _ _ _ hc.2 (fun p hp => hb p (by simp [hp])) hS g2)
 | (k, false) :: is, listed, a, w, hc, hb, hS, h => by
  simp only [chkB, Bool.and_eq_true, beq_iff_eq] at hc
  have hlt : k < ops.size := hb (k, false) (by simp)
  have hd : ops.getD k default = ops[k] := by simp [Array.getD, hlt]
  have ho : ops[k]? = some (ops.getD k default) := by rw [hd]; simp [hlt]
  have hb' : ∀ p ∈ is, p.1 < ops.size := fun p hp => hb p (by simp [hp])
  rw [show ((k, false) :: is).length + 1 + q1.length = (is.length + 1 + q1.length) + 1 by simp; omega]
  refine wpAnyH_all hc.1 (by simp) ?_
  intro j' hj'
  have hj' : j' = k := by simpa using hj'
  rw [hj']
  clear hj'
  unfold wpOp
  rw [ho]
  dsimp only
  unfold opsOf at h
  rw [List.map_cons] at h
  unfold wpS at h
  dsimp only at h
  by_cases hw : Region.wanted (ops.getD k default) (yielded ops a.tmps) = true
  ·rw [if_pos hw] at h ⊢
   exact .inl (wpQ (Q' := lift n (bK P n ops S i j q1 q2 K)) (fun _ _ _ h => h) (fun h => h) (Oper.wp_mono (fun a w hh => ⟨hh.1, wpS_B hs hi hj h1 h2 hl is _ _ _ hc.2 hb' hh.1 hh.2⟩) h))
  ·rw [if_neg hw] at h ⊢
   exact ⟨hS, wpS_B hs hi hj h1 h2 hl is _ _ _ hc.2 hb' hS h⟩
def chkAllB (P : Program) (ops : Array Oper) (is : List (Nat × Bool)) (i j : Nat) (q1 q2 : List (Nat × Bool)) : Bool :=
 P.follows .mixedOrders && Region.noSelect ops && (is.all fun p => Nat.blt p.1 ops.size) && Nat.blt i ops.size && Nat.blt j ops.size && (q1.all fun p => Nat.blt p.1 ops.size) && (q2.all fun p => Nat.blt p.1 ops.size) && q2.length == q1.length && is.length + 1 + q1.length == ops.size && chkB ops i j q1 q2 is (Array.replicate ops.size false)
theorem drB {id : Nat} {F : List As} (is : List Nat) (i j : Nat) (q1 q2 : List Nat) (hc : chkAllB P ops (dec is) i j (dec q1) (dec q2) = true) (h : SH B w L) (p : ∀ w, SH B w L → Hs F w) (k : ∀ w, SH B w L → XS P n ops (Hs F) (opsOf ops (dec is)) (bK P n ops (Hs F) i j (dec q1) (dec q2) K) e w) : C P n (.region id ops true) K e w := fun a ha => by
 simp only [chkAllB, Bool.and_eq_true, beq_iff_eq, List.all_eq_true] at hc
 obtain ⟨⟨⟨⟨⟨⟨⟨⟨⟨h1, h2⟩, h3⟩, h4⟩, h5⟩, h6⟩, h7⟩, h8⟩, h9⟩, h10⟩ := hc
 refine wp_region_held (S := Hs F) h1 ?_
 have hd := h.drew
 have := wpS_B (P := P) (K := K) (S := Hs F) (n := n) h2 (blt_lt.1 h4) (blt_lt.1 h5) (fun p hp => blt_lt.1 (h6 p hp)) (fun p hp => blt_lt.1 (h7 p hp)) h8 (dec is) _ a w.drew h10 (fun p hp => blt_lt.1 (h3 p hp)) (p _ hd) (k _ hd a ha)
 rw [h9] at this
 exact this
theorem xzB {i j : Nat} {q1 q2 : List (Nat × Bool)} (h1 : XS P n ops S (opsOf ops ((i, false) :: q1)) K e w) (h2 : XS P n ops S (opsOf ops ((j, false) :: q2)) K e w) : XS P n ops S [] (bK P n ops S i j q1 q2 K) e w := xz ⟨h1, h2⟩
end Go.E
end
section
namespace Go.Proofs.YtjlgchdekhmnnaaGreatDoor
open Go.E
theorem bd_58 : bdn Tryz.prog 58 = some ([.slice none 0 0, .slice none 0 0, .int .i64 0], [(0, 1), (1, 1), (2, 1)]) := by kernel_rfl
theorem fo_125_0 : fo Tryz.prog 125 0 = some 0 := by kernel_rfl
theorem fo_58_0 : fo Tryz.prog 58 0 = some 0 := by kernel_rfl
theorem fo_93_0 : fo Tryz.prog 93 0 = some 0 := by kernel_rfl
theorem fo_93_1 : fo Tryz.prog 93 1 = some 1 := by kernel_rfl
theorem fo_93_2 : fo Tryz.prog 93 2 = some 2 := by kernel_rfl
theorem one_23 : oneC Tryz.prog 23 = true := by kernel_rfl
theorem one_55 : oneC Tryz.prog 55 = true := by kernel_rfl
theorem one_56 : oneC Tryz.prog 56 = true := by kernel_rfl
theorem row_58 : rowN Tryz.prog 58 = some 3 := by kernel_rfl
theorem sl_55 : Tryz.prog.underlying 55 = some (.slice 136) := by kernel_rfl
theorem ss_136 : sizes Tryz.prog 136 = some (.agg [.int .i64 0, .int .i64 0, .int .i64 0, .int .u64 0, .slice none 0 0, .int .u64 0, .string .empty, .int .u64 0, .slice none 0 0, .int .i64 0, .int .i64 0, .int .i64 0, .int .i64 0, .int .i64 0].toArray, 14, 152) := by kernel_rfl
theorem sz_55 : (Tryz.prog.info? 55).map (·.size) = some 1 := by kernel_rfl
theorem sz_58 : (Tryz.prog.info? 58).map (·.size) = some 3 := by kernel_rfl
theorem un_23 : Tryz.prog.underlying 23 = some (.pointer 93) := by kernel_rfl
theorem zc_58 : zc Tryz.prog 58 = some [.slice none 0 0, .slice none 0 0, .int .i64 0] := by kernel_rfl
theorem en_92 : Ents Tryz.prog 92 := enG Tryz.func92 rfl rfl
theorem en_58 : Ents Tryz.prog 58 := enG Tryz.func58 rfl rfl
theorem en_91 : Ents Tryz.prog 91 := enG Tryz.func91 rfl rfl
theorem en_21 : Ents Tryz.prog 21 := enG Tryz.func21 rfl rfl
end Go.Proofs.YtjlgchdekhmnnaaGreatDoor
end
