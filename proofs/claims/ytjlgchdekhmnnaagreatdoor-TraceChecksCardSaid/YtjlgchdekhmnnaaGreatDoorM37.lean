/- Parts of a proof: Pa, Ck. -/
import Derived.Test.YtjlgchdekhmnnaaGreatDoorM36
import Derived.Test.YtjlgchdekhmnnaaGreatDoorM29
section
namespace Go.Proofs.YtjlgchdekhmnnaaGreatDoor
open Go.RowKit
set_option linter.unusedVariables false
theorem put_other {α : Type} (es : List (Int × α)) (k k' : Int) (v : α) (h : k' ≠ k) : (if es.any (fun p => p.1 == k) then es.map (fun p => if p.1 == k then (k, v) else p) else es ++ [(k, v)]).find? (fun p => p.1 == k') = es.find? (fun p => p.1 == k') := by
  split
  · rename_i ha; clear ha
    induction es with
    | nil => rfl
    | cons p l ih =>
      rw [List.map_cons]
      by_cases hp : (p.1 == k) = true
      · rw [if_pos hp, List.find?_cons_of_neg (by simpa using fun e => h e.symm), ih, List.find?_cons_of_neg]
        simp at hp ⊢; omega
      · rw [if_neg hp]
        by_cases hq : (p.1 == k') = true
        · rw [List.find?_cons_of_pos (by exact hq), List.find?_cons_of_pos (by exact hq)]
        · rw [List.find?_cons_of_neg (by exact hq), List.find?_cons_of_neg (by exact hq), ih]
  · rw [List.find?_append]
    rw [show List.find? (fun p => p.1 == k') [(k, v)] = none by simp; omega]
    simp
theorem bput_other (es : List (Int × Int × Ct.Trie × Bool)) (k k' : Int) (v : Int × Ct.Trie × Bool) (h : k' ≠ k) : (bput es k v).find? (fun p => p.1 == k') = es.find? (fun p => p.1 == k') := put_other es k k' v h
theorem tput_other (es : List (Int × Ct.Trie)) (k k' : Int) (v : Ct.Trie) (h : k' ≠ k) : (tput es k v).find? (fun p => p.1 == k') = es.find? (fun p => p.1 == k') := put_other es k k' v h
theorem number_of (i j : Nat) (hi : i < 8) (hj : j < 16) : Ct.numberC (i : Nat) (j : Nat) = 1 + 16 * (i : Int) + j := by
  unfold Ct.numberC; rw [if_neg (by omega)]
theorem number_ne (i i' j j' : Nat) (hi : i < 8) (hi' : i' < 8) (hj : j < 16) (hj' : j' < 16) (h : i ≠ i' ∨ j ≠ j') : Ct.numberC (i : Nat) (j : Nat) ≠ Ct.numberC (i' : Nat) (j' : Nat) := by
  rw [number_of i j hi hj, number_of i' j' hi' hj']; omega
theorem ThInv.other {T T' : Ct.Tab} {i k : Nat} {t u : Ct.Th} (h : ThInv T k u) (hk : k < 8) (hi : i < 8) (hx : t.index < 16) (ne : k ≠ i) (hT : ∀ n, n ≠ Ct.numberC (i : Nat) (t.index : Nat) → T'.ops.find? (fun p => p.1 == n) = T.ops.find? (fun p => p.1 == n)) : ThInv T' k u := by
  refine ⟨h.ops, h.kinds, h.code, fun j h1 h2 h3 => ?_, fun hp => ?_⟩
  · rw [hT _ (number_ne k i j t.index hk hi h2 hx (.inl ne))]; exact h.later j h1 h2 h3
  · obtain ⟨c, hc⟩ := Option.isSome_iff_exists.1 hp
    have := h.ops; have h2 := (h.code c hc).2.2.1
    rw [hT _ (number_ne k i u.index t.index hk hi (by omega) hx (.inl ne))]; exact h.now hp
theorem finishM_other (T : Ct.Tab) (th ix : Int) (r : Ct.Result) (n : Int) (hn : n ≠ Ct.numberC th ix) : (finishM T th ix r).1.ops.find? (fun p => p.1 == n) = T.ops.find? (fun p => p.1 == n) := by
  unfold finishM
  split
  · exact bput_other _ _ _ _ hn
  · rfl
theorem finishM_zero (T : Ct.Tab) (th ix : Int) (r : Ct.Result) (hn : 0 ≠ Ct.numberC th ix) : (finishM T th ix r).1.tries.find? (fun p => p.1 == 0) = T.tries.find? (fun p => p.1 == 0) := by
  unfold finishM
  split
  · simp only
    split
    · exact tput_other _ _ _ _ hn
    · rfl
  · rfl
theorem lastM_done (i : Nat) (t : Ct.Th) (M : Ct.Mach) (r : Ct.Result) : lastM i t M (.done r) = { M with tab := (finishM M.tab i t.index r).1, history := M.history ++ [{ thread := i, index := t.index, ret := true, result := (finishM M.tab i t.index r).2 }], threads := M.threads.set i { t with present := none, index := t.index + 1 } } := rfl
theorem lastM_not (i : Nat) (t : Ct.Th) (M : Ct.Mach) (c : Ct.Code) (h : Code.isDone c = false) : lastM i t M c = M := by cases c <;> first | rfl | exact absurd h (by simp [Code.isDone])
structure HInv (n : Nat) (i : Nat) (t : Ct.Th) (M : Ct.Mach) (c : Ct.Code) : Prop where
  fin : Fin (61000 + 100 * n) M.st
  cnt : M.count + n ≤ 1000000
  hist : M.history.length + 2 * n + 1 ≤ 1000000
  nth : M.threads.length ≤ 8
  at_ : i < M.threads.length
  th : ∀ k u, k ≠ i → M.threads[k]? = some u → ThInv M.tab k u
  self : M.threads[i]? = some { t with present := some c }
  ops : t.ops.length ≤ 16
  kinds : ∀ o ∈ t.ops, KindOk o ∧ (o.kind = 0 ∨ o.handle = 0)
  wt : c.wt
  rank : c.rank ≤ 60
  idx : t.index < t.ops.length
  later : ∀ j : Nat, t.index < j → j < 16 → M.tab.ops.find? (fun p => p.1 == Ct.numberC i j) = none
  now : (∃ k t0, (M.tab.ops.find? (fun p => p.1 == Ct.numberC i t.index)).map (·.2) = some (k, t0, false) ∧ (k = 9 ∨ k = 7)) ∨ Code.isDone c = true
  msk : M.mask < 18446744073709551616
  zero : ∃ t, (M.tab.tries.find? (fun p => p.1 == 0)).map (·.2) = some t
theorem MInv.first {n : Nat} {M : Ct.Mach} {i : Nat} {t : Ct.Th} (h : MInv (n + 1) M) (hi : M.threads[i]? = some t) (hx : t.index < t.ops.length) : HInv n i t (firstM i t M).1 (firstM i t M).2 := by
  have hlt := (List.getElem?_eq_some_iff.1 hi).1
  have ti := h.th i t hi
  have hi8 : i < 8 := by have := h.nth; omega
  have hx16 : t.index < 16 := by have := ti.ops; omega
  have hcnt := h.cnt; have hhi := h.hist
  cases hp : t.present with
  | none =>
    have e : firstM i t M = ({ st := (beginM M.mask M.tab i t.index (t.ops.getD t.index {}) M.st).2.2, tab := (beginM M.mask M.tab i t.index (t.ops.getD t.index {}) M.st).1, count := M.count + 1, history := M.history ++ [{ thread := i, index := t.index }], threads := M.threads.set i { t with present := some (beginM M.mask M.tab i t.index (t.ops.getD t.index {}) M.st).2.1 }, mask := M.mask }, (beginM M.mask M.tab i t.index (t.ops.getD t.index {}) M.st).2.1) := by
      unfold firstM; rw [hp]
    rw [e]
    obtain ⟨o, ho⟩ : ∃ o, t.ops[t.index]? = some o := ⟨_, List.getElem?_eq_getElem hx⟩
    have hod : t.ops.getD t.index {} = o := by rw [List.getD_eq_getElem?_getD, ho]; rfl
    rw [hod]
    have hok := ti.kinds o (List.mem_of_getElem? ho)
    have hoth : ∀ n, n ≠ Ct.numberC (i : Nat) (t.index : Nat) → (beginM M.mask M.tab i t.index o M.st).1.ops.find? (fun p => p.1 == n) = M.tab.ops.find? (fun p => p.1 == n) := fun n hn => bput_other _ _ _ _ hn
    refine ⟨?_, by show M.count + 1 + n ≤ _; omega, by simp; omega, by simpa using h.nth, by simpa using hlt, fun k u ne hu => ?_, by simp [hlt], ti.ops, ti.kinds, ?_, ?_, hx, fun j h1 h2 => ?_, ?_, h.msk, h.zero⟩
    · show Fin _ (beginM M.mask M.tab i t.index o M.st).2.2
      exact startT_fin _ _ _ _ _ hok.1 (h.fin.less (by omega))
    · replace hu : (M.threads.set i _)[k]? = some u := hu
      rw [List.getElem?_set, if_neg (fun e => ne e.symm)] at hu
      exact (h.th k u hu).other (t := t) (by have := (List.getElem?_eq_some_iff.1 hu).1; have := h.nth; omega) hi8 hx16 ne hoth
    · exact startT_wt _ _ _ _ hok.1
    · exact startT_rank _ _ _ _
    · show (beginM M.mask M.tab i t.index o M.st).1.ops.find? _ = none
      rw [hoth _ (number_ne i i j t.index hi8 hi8 h2 hx16 (.inr (by omega)))]
      exact ti.later j (by omega) h2 (.inl hp)
    · rcases hok.1 with hk | hk
      · right
        show Code.isDone (startT _ _ _ _).1 = true
        unfold startT
        rw [if_neg (by omega), if_neg (by omega)]; rfl
      · left
        refine ⟨o.kind, Ct.trieOf M.tab o.handle, ?_, hk.imp id And.left⟩
        show ((bput M.tab.ops (Ct.numberC i t.index) (o.kind, Ct.trieOf M.tab o.handle, false)).find? _).map _ = _
        rw [bput_find]
  | some c =>
    have e : firstM i t M = ({ M with st := (Ct.step c M.st).2, count := M.count + 1, threads := M.threads.set i { t with present := some (Ct.step c M.st).1 } }, (Ct.step c M.st).1) := by
      unfold firstM; rw [hp]
    rw [e]
    obtain ⟨hwt, hrk, _, _⟩ := ti.code c hp
    refine ⟨Fin.step hwt (h.fin.less (by omega)), by show M.count + 1 + n ≤ _; omega, by show M.history.length + 2 * n + 1 ≤ _; omega, by simpa using h.nth, by simpa using hlt, fun k u ne hu => ?_, by simp [hlt], ti.ops, ti.kinds, Ct.step_wt _ hwt, Ct.step_rank _ hrk, hx, fun j h1 h2 => ti.later j (by omega) h2 (.inr (by omega)), .inl (ti.now (by rw [hp]; rfl)), h.msk, h.zero⟩
    replace hu : (M.threads.set i _)[k]? = some u := hu
    rw [List.getElem?_set, if_neg (fun e => ne e.symm)] at hu
    exact h.th k u hu
theorem HInv.last {n : Nat} {M : Ct.Mach} {i : Nat} {t : Ct.Th} {c : Ct.Code} (h : HInv n i t M c) : MInv n (lastM i t M c) := by
  have hi8 : i < 8 := by have := h.nth; have := h.at_; omega
  have hx16 : t.index < 16 := by have := h.ops; have := h.idx; omega
  have hhi := h.hist
  cases hd : Code.isDone c with
  | true =>
    obtain ⟨r, rfl⟩ : ∃ r, c = .done r := by cases c <;> first | exact ⟨_, rfl⟩ | exact absurd hd (by simp [Code.isDone])
    rw [lastM_done]
    refine ⟨h.fin, h.cnt, by simp; omega, by simpa using h.nth, fun k u hu => ?_, h.msk, ?_⟩
    · replace hu : (M.threads.set i _)[k]? = some u := hu
      rw [List.getElem?_set] at hu
      by_cases ne : i = k
      · subst ne
        simp [h.at_] at hu
        subst hu
        refine ⟨h.ops, h.kinds, fun c hc => (by simp at hc), fun j h1 h2 _ => ?_, fun hp => (by simp at hp)⟩
        show (finishM M.tab i t.index r).1.ops.find? _ = none
        simp at h1
        rw [finishM_other _ _ _ _ _ (number_ne i i j t.index hi8 hi8 h2 hx16 (.inr (by omega)))]
        exact h.later j (by omega) h2
      · rw [if_neg ne] at hu
        exact (h.th k u (fun e => ne e.symm) hu).other (t := t) (by have := (List.getElem?_eq_some_iff.1 hu).1; have := h.nth; omega) hi8 hx16 (fun e => ne e.symm) (fun n hn => finishM_other _ _ _ _ _ hn)
    · show ∃ t', ((finishM M.tab i t.index r).1.tries.find? _).map _ = _
      rw [finishM_zero _ _ _ _ (by rw [number_of i t.index hi8 hx16]; omega)]
      exact h.zero
  | false =>
    rw [lastM_not _ _ _ _ hd]
    refine ⟨h.fin, h.cnt, by omega, h.nth, fun k u hu => ?_, h.msk, h.zero⟩
    by_cases ne : k = i
    · subst ne
      rw [h.self] at hu; injection hu with hu; subst hu
      refine ⟨h.ops, h.kinds, fun c' hc => ?_, fun j h1 h2 h3 => ?_, fun _ => h.now.elim id (fun e => by rw [hd] at e; cases e)⟩
      · simp at hc; subst hc; exact ⟨h.wt, h.rank, h.idx, hd⟩
      · rcases h3 with h3 | h3
        · cases h3
        · simp only at h1 h3
          exact h.later j (by omega) h2
    · exact h.th k u ne hu
theorem MInv.less {n m : Nat} {M : Ct.Mach} (h : MInv n M) (hm : m ≤ n) : MInv m M := ⟨h.fin.less (by omega), by have := h.cnt; omega, by have := h.hist; omega, h.nth, h.th, h.msk, h.zero⟩
theorem MInv.pick {n : Nat} {M : Ct.Mach} (h : MInv (n + 1) M) (th : Int) : MInv n (pickM th M).1 := by
  unfold pickM
  split
  · exact h.less (by omega)
  · split
    · exact h.less (by omega)
    · rename_i t hi
      split
      · exact h.less (by omega)
      · exact (h.first hi (by omega)).last
set_option maxRecDepth 100000 in
set_option maxHeartbeats 800000 in
theorem pick_idle (g : Ghost) (w : World) (m : MFix) (role : Nat → Option Role) (vth vpk vhi : Value) (ov : Nat → Value) (tb : Nat → Nat) (pk : List Int) (M : Ct.Mach) (th : Int) (h : Body (fun _ => False) g w m role vth vpk vhi ov tb pk M) (hi : th < 0 ∨ (M.threads.length : Int) ≤ th ∨ ∃ (i : Nat) (t : Ct.Th), th = (i : Nat) ∧ M.threads[i]? = some t ∧ t.ops.length ≤ t.index) :
    Calls Tryz.prog 22 #[.pointer (some ⟨m.mb, 0, none⟩), .int .i64 th] w fun e w' => e = .returned (.bool false) ∧ Below w.heap.size w w' := by
  obtain ⟨p, cap, ev⟩ := h.len
  have c2 := h.cell 2
  simp at c2
  have HB := Lib.hid (Below.refl w.heap.size w)
  rcases hi with hi | hi | ⟨i, t, rfl, hi, hc⟩
  · clear c2
    go_enter Tryz.func22, Tryz.ntmps22
    go_wp2_with fail
    go_ret
    exact ⟨rfl, HB.out⟩
  · subst ev
    have q1 : ¬ th < 0 := by omega
    generalize M.threads.length = len at *
    clear h
    go_enter Tryz.func22, Tryz.ntmps22
    go_wp2_with fail
    go_ret
    exact ⟨rfl, HB.out⟩
  · obtain ⟨gt, cap, rfl, hr, hcell, hfree⟩ := h.thread i t hi
    have hlt := (List.getElem?_eq_some_iff.1 hi).1
    obtain ⟨op, ocap, eov⟩ : ∃ op ocap, ov i = .slice op t.ops.length ocap := by
      rcases h.ops i t hi with ⟨e1, e2, _⟩ | ⟨b, off, cp, e1, _⟩
      · exact ⟨none, 0, by rw [e1, e2]⟩
      · exact ⟨_, _, e1⟩
    have t0 := hcell 0 (by decide); have t1 := hcell 1 (by decide)
    simp only [thC, eov, List.getElem?_cons_zero, List.getElem?_cons_succ, Nat.add_zero] at t0 t1
    have HD := Lib.hid (thDone_any w gt (i * 3) t.index t.ops.length ocap _ t0 t1)
    have q6 : decide (t.ops.length ≤ t.index) = true := by simp; omega
    rw [q6] at HD
    have q1 : ¬ ((i : Int) < 0) := by omega
    have q3 : i < M.threads.length := hlt
    have q4 : decide (M.threads.length ≤ i) = false := by simp; omega
    generalize M.threads.length = len at *
    clear t0 t1 h hcell hfree hlt hi hc hr ev eov q6
    go_enter Tryz.func22, Tryz.ntmps22
    go_wp2_with fail
    refine HD.out.mono ?_
    rintro e w1 ⟨rfl, hb1⟩
    have HB1 := Lib.hid hb1
    clear hb1
    go_wp2_with fail
    go_ret
    exact ⟨rfl, HB1.out⟩
theorem pick_any (n : Nat) (g : Ghost) (w : World) (m : MFix) (role : Nat → Option Role) (vth vpk vhi : Value) (ov : Nat → Value) (tb : Nat → Nat) (pk : List Int) (M : Ct.Mach) (th : Int) (h : MachX (fun _ => False) g w m role vth vpk vhi ov tb pk M) (inv : MInv (n + 1) M) :
    Calls Tryz.prog 22 #[.pointer (some ⟨m.mb, 0, none⟩), .int .i64 th] w (PickRes g w m role vpk pk (pickM th M)) := by
  have idle : (th < 0 ∨ (M.threads.length : Int) ≤ th ∨ ∃ (i : Nat) (t : Ct.Th), th = (i : Nat) ∧ M.threads[i]? = some t ∧ t.ops.length ≤ t.index) → pickM th M = (M, false) → Calls Tryz.prog 22 #[.pointer (some ⟨m.mb, 0, none⟩), .int .i64 th] w (PickRes g w m role vpk pk (pickM th M)) := fun hi e => by
    refine (pick_idle g w m role vth vpk vhi ov tb pk M th h.body hi).mono ?_
    rintro e' w' ⟨rfl, hb⟩
    rw [e]
    exact ⟨g.vn, g.vc, g.N, role, vth, vhi, ov, tb, rfl, h.below hb, MvN.below hb⟩
  by_cases h0 : th < 0
  · exact idle (.inl h0) (by unfold pickM; rw [if_pos h0])
  · obtain ⟨i, rfl⟩ := Int.eq_ofNat_of_zero_le (Int.not_lt.1 h0)
    cases hi : M.threads[i]? with
    | none =>
      have hl := List.getElem?_eq_none_iff.1 hi
      exact idle (.inr (.inl (by omega))) (by unfold pickM; rw [if_neg h0]; simp [hi])
    | some t =>
      by_cases hx : t.ops.length ≤ t.index
      · exact idle (.inr (.inr ⟨i, t, rfl, hi, hx⟩)) (by unfold pickM; rw [if_neg h0]; simp [hi, hx])
      · have e : pickM (i : Nat) M = (lastM i t (firstM i t M).1 (firstM i t M).2, true) := by
          unfold pickM; rw [if_neg h0]; simp [hi, hx]
        rw [e]
        cases hp : t.present with
        | none => exact pick_none n g w m role vth vpk vhi ov tb pk M i t h inv hi hp (by omega)
        | some c => exact pick_some n g w m role vth vpk vhi ov tb pk M i t c h inv hi hp
end Go.Proofs.YtjlgchdekhmnnaaGreatDoor
end
section
namespace Go.Proofs.YtjlgchdekhmnnaaGreatDoor
open Go.RowKit
set_option linter.unusedVariables false
def checkC (l : List (List Ct.Op)) (np : Nat) : Int := if 8 < l.length ∨ 67108864 < np then 3 else if l.all (fun os => decide (os.length ≤ 16)) then 0 else 3
theorem checkC_ok {l : List (List Ct.Op)} {n : Nat} (h : checkC l n = 0) : l.length ≤ 8 ∧ n ≤ 67108864 ∧ ∀ os ∈ l, os.length ≤ 16 := by
  unfold checkC at h
  split at h
  · cases h
  · split at h
    · rename_i h1 h2
      exact ⟨by omega, by omega, fun os ho => by have := List.all_eq_true.1 h2 os ho; simpa using this⟩
    · cases h
theorem RowAt.form {N : Nat → Prop} {w : World} {v : Value} {n : Nat} {xs : List Value} (h : RowAt N w v n xs) (hn : xs.length ≤ n) :
    ∃ p cap, v = .slice p n cap ∧ n ≤ maxLen ∧ ∀ (i : Nat) x, xs[i]? = some x → ∃ b off, p = some ⟨b, off, none⟩ ∧ b < w.heap.size ∧ w.cell? ⟨b, off + i, none⟩ = some x := by
  rcases h with ⟨rfl, rfl, rfl⟩ | ⟨b, off, cap, rfl, hb, hl, hc, hm, hcell⟩
  · exact ⟨none, 0, rfl, Nat.zero_le _, fun i x hx => by simp at hx⟩
  · exact ⟨_, _, rfl, by omega, fun i x hx => ⟨b, off, rfl, hl, hcell i x hx⟩⟩
theorem OpsAt.form {N : Nat → Prop} {w : World} {v : Value} {os : List Ct.Op} (h : OpsAt N w v os) : ∃ p cap, v = .slice p os.length cap := by
  rcases h with ⟨rfl, h0, _⟩ | ⟨b, off, cap, rfl, _⟩
  · exact ⟨none, 0, by rw [h0]⟩
  · exact ⟨_, _, rfl⟩
theorem ThreadsAt.form {N : Nat → Prop} {w : World} {v : Value} {l : List (List Ct.Op)} (h : ThreadsAt N w v l) :
    ∃ p cap, v = .slice p l.length cap ∧ l.length ≤ maxLen ∧ ∀ (i : Nat) os, l[i]? = some os → ∃ b off u, p = some ⟨b, off, none⟩ ∧ b < w.heap.size ∧ w.cell? ⟨b, off + i, none⟩ = some u ∧ OpsAt N w u os := by
  obtain ⟨vs, h1, h2, h3⟩ := h
  obtain ⟨p, cap, rfl, hm, hf⟩ := h2.form (by omega)
  refine ⟨p, cap, rfl, hm, fun i os hi => ?_⟩
  have hlt := (List.getElem?_eq_some_iff.1 hi).1
  have hv : vs[i]? = some (vs[i]'(by omega)) := List.getElem?_eq_getElem _
  obtain ⟨b, off, rfl, hb, hc⟩ := hf i _ hv
  exact ⟨b, off, _, rfl, hb, hc, h3 i _ os hv hi⟩
set_option maxRecDepth 100000 in
set_option maxHeartbeats 800000 in
theorem check_any (N : Nat → Prop) (w : World) (mask : Int) (vths vpk : Value) (l : List (List Ct.Op)) (pk : List Int) (h1 : ThreadsAt N w vths l) (h2 : PicksAt N w vpk pk) :
    Calls Tryz.prog 56 #[.agg #[.int .u64 mask, vths, vpk]] w fun e w' => e = .returned (.int .i64 (checkC l pk.length)) ∧ Below w.heap.size w w' := by
  obtain ⟨p, cap, rfl, hm, hf⟩ := h1.form
  obtain ⟨q, cq, rfl, hmq, _⟩ := RowAt.form h2 (by simp)
  have HF := Lib.hid hf
  have HB := Lib.hid ((Below.refl w.heap.size w).alloc (Nat.le_refl _) (.cells #[.int .u64 mask, .slice p l.length cap, .slice q pk.length cq] 50))
  obtain ⟨nl, hnl⟩ : ∃ n, l.length = n := ⟨_, rfl⟩
  obtain ⟨np, hnp⟩ : ∃ n, pk.length = n := ⟨_, rfl⟩
  have HNL := Lib.hid hnl
  clear h1 h2 hf hmq
  unfold checkC
  rw [hnl, hnp]
  rw [hnl] at hm HB
  rw [hnp] at HB
  clear hnl hnp
  by_cases c1 : 8 < nl
  · rw [if_pos (.inl c1)]
    go_enter Tryz.func56, Tryz.ntmps56
    go_wp2_with fail
    go_ret
    exact ⟨rfl, HB.out⟩
  · by_cases c2 : 67108864 < np
    · rw [if_pos (.inr c2)]
      go_enter Tryz.func56, Tryz.ntmps56
      go_wp2_with fail
      go_ret
      exact ⟨rfl, HB.out⟩
    · rw [if_neg (by omega)]
      obtain ⟨rr, hrr⟩ : ∃ r : Int, (if l.all (fun os => decide (os.length ≤ 16)) then (0 : Int) else 3) = r := ⟨_, rfl⟩
      rw [hrr]
      have HRR := Lib.hid hrr
      clear hrr
      go_enter Tryz.func56, Tryz.ntmps56
      go_wp2_with fail
      go_loopw [18] (fun v wr => ∃ k : Nat, v = .int .i64 k ∧ k ≤ nl ∧ Below w.heap.size w wr ∧ ∀ (i : Nat) os, i < k → l[i]? = some os → os.length ≤ 16) (fun v _ => nl - (intOf v).toNat)
      case atStart => exact ⟨0, rfl, Nat.zero_le _, HB.out, fun i os hi => by omega⟩
      case round =>
        obtain ⟨k, rfl, hk, hb, hs⟩ := hrel
        by_cases hlt : k < nl
        · obtain ⟨os, hos⟩ : ∃ os, l[k]? = some os := ⟨_, List.getElem?_eq_getElem (by rw [HNL.out]; exact hlt)⟩
          obtain ⟨b, off, u, rfl, hbl, hc, ho⟩ := HF.out k os hos
          have hc' := cell_below hc hb
          obtain ⟨p', cap', rfl⟩ := ho.form
          have HB1 := Lib.hid hb
          have HS := Lib.hid hs
          obtain ⟨n, hn⟩ : ∃ n, os.length = n := ⟨_, rfl⟩
          rw [hn] at hc'
          have HN := Lib.hid hn; have HOS := Lib.hid hos
          clear hc ho hb hs hn hos
          by_cases c3 : 16 < n
          · have HE : Hid ((if l.all (fun os => decide (os.length ≤ 16)) then (0 : Int) else 3) = 3) := by
              show _ = _
              rw [if_neg]
              intro h
              have := List.all_eq_true.1 h os (List.mem_of_getElem? HOS.out)
              rw [HN.out] at this
              simp at this; omega
            go_wp2_with fail
            go_ret
            exact ⟨by rw [← HRR.out, HE.out]; rfl, HB1.out⟩
          · go_wp2_with fail
            go_roundw
            case rel => exact ⟨k + 1, by go_num, by omega, HB1.out, fun i os' hi hos' => by
              rcases Nat.lt_succ_iff_lt_or_eq.1 hi with h | h
              · exact HS.out i os' h hos'
              · subst h; rw [HOS.out] at hos'; injection hos' with e; rw [← e, HN.out]; omega⟩
            case measure => simp [intOf]; omega
        · have hk2 : k = nl := by omega
          subst hk2
          have HB1 := Lib.hid hb
          have HE : Hid ((if l.all (fun os => decide (os.length ≤ 16)) then (0 : Int) else 3) = 0) := by
            show _ = _
            rw [if_pos]
            rw [List.all_eq_true]
            intro os hos
            obtain ⟨i, hi⟩ := List.mem_iff_getElem?.1 hos
            have hl := (List.getElem?_eq_some_iff.1 hi).1
            have := hs i os (by rw [← HNL.out]; exact hl) hi
            simpa using this
          clear hb hs
          go_wp2_with fail
          go_ret
          exact ⟨by rw [← HRR.out, HE.out]; rfl, HB1.out⟩
end Go.Proofs.YtjlgchdekhmnnaaGreatDoor
end
