/- Parts of a proof: Pq, Pr. -/
import Derived.Test.YtjlgchdekhmnnaaGreatDoorM16
import Derived.Test.YtjlgchdekhmnnaaGreatDoorM02
import Derived.Deep.QuietTactic
import Derived.BigQuiet
import Derived.Shelf.SlSorted.Search
import Derived.Test.YtjlgchdekhmnnaaGreatDoorM03
import Derived.Test.YtjlgchdekhmnnaaGreatDoorM07
section
namespace Go.Proofs.YtjlgchdekhmnnaaGreatDoor
open Go.RowKit
set_option linter.unusedVariables false
set_option linter.unusedSimpArgs false
theorem all_take_succ {α : Type} (p : α → Bool) (l : List α) (k : Nat) (h : k < l.length) (d : α) : (l.take (k + 1)).all p = ((l.take k).all p && p (l.getD k d)) := by
  rw [List.take_succ_eq_append_getElem h, List.all_append]
  simp [List.getD_eq_getElem?_getD, List.getElem?_eq_getElem h]
theorem all_false_of {α : Type} (p : α → Bool) (l : List α) (k : Nat) (h : k < l.length) (d : α) (hp : p (l.getD k d) = false) : l.all p = false := by
  rw [List.all_eq_false]
  refine ⟨l[k], List.getElem_mem h, ?_⟩
  rw [List.getD_eq_getElem?_getD, List.getElem?_eq_getElem h] at hp
  simpa using hp
def nodeOk (b : Int) : Bool := decide (1 ≤ b)
theorem allNodes_any (N : Nat → Prop) (w : World) (v : Value) (xs : List Int) (h : RefsAt N w v xs) (hl : xs.length ≤ 1000000) :
    Calls Tryz.prog 243 #[v] w fun e w' => e = .returned (.bool (xs.all fun b => decide (1 ≤ b))) ∧ w = w' := by
  rcases h with ⟨rfl, rfl⟩ | ⟨b, off, cap, rfl, hN, hb, hc, hm, hcell⟩
  · go_enter Tryz.func243, Tryz.ntmps243
    go_wp2_with fail
    go_loop [7] (fun i => i = .int .i64 0) (fun _ => 0)
    case atStart => rfl
    case round =>
      subst hrel
      go_wp2_with fail
      go_ret
      exact ⟨rfl, rfl⟩
  · have HC := Lib.hid hcell
    clear hcell hN hb
    go_enter Tryz.func243, Tryz.ntmps243
    go_wp2_with fail
    go_loop [7] (fun i => ∃ k : Nat, k ≤ xs.length ∧ i = .int .i64 (k : Int) ∧ (xs.take k).all nodeOk = true) (fun i => xs.length - (intOf i).toNat)
    case atStart => exact ⟨0, by omega, rfl, rfl⟩
    case round =>
      obtain ⟨k, hk, rfl, hrel⟩ := hrel
      have HA := Lib.hid hrel
      clear hrel
      by_cases hlt : k < xs.length
      · have c := HC.out k hlt
        by_cases he : 1 ≤ xs.getD k 0
        · have HS := Lib.hid (show (xs.take (k + 1)).all nodeOk = true by rw [all_take_succ _ _ _ hlt 0, HA.out]; simpa [nodeOk] using he)
          have he' : ¬ (xs.getD k 0 < 1) := by omega
          generalize xs.getD k 0 = x at *
          go_wp2_with fail
          go_round
          case rel => exact ⟨k + 1, by omega, by go_num, HS.out⟩
          case measure => simp [intOf]; omega
        · have HS := Lib.hid (show (xs.all fun b => decide (1 ≤ b)) = false from all_false_of _ _ k hlt 0 (by simpa using he))
          have he' : xs.getD k 0 < 1 := by omega
          generalize xs.getD k 0 = x at *
          go_wp2_with fail
          go_ret
          exact ⟨by rw [HS.out]; rfl, rfl⟩
      · obtain rfl : k = xs.length := by omega
        have HS := Lib.hid (show (xs.all fun b => decide (1 ≤ b)) = true by have := HA.out; rwa [List.take_length] at this)
        go_wp2_with fail
        go_ret
        exact ⟨by rw [HS.out]; rfl, rfl⟩
theorem eq_at {xs ys : List Int} (h : xs.length = ys.length) (ha : ∀ n, n < xs.length → xs.getD n 0 = ys.getD n 0) : (xs == ys) = true := by
  rw [beq_iff_eq]
  apply List.ext_getElem h
  intro i h1 h2
  have := ha i h1
  simpa [List.getD_eq_getElem?_getD, List.getElem?_eq_getElem h1, List.getElem?_eq_getElem h2] using this
theorem ne_at {xs ys : List Int} (k : Nat) (h : xs.getD k 0 ≠ ys.getD k 0) : (xs == ys) = false := by
  rw [beq_eq_false_iff_ne]; rintro rfl; exact h rfl
theorem ne_len {xs ys : List Int} (h : xs.length ≠ ys.length) : (xs == ys) = false := by
  rw [beq_eq_false_iff_ne]; rintro rfl; exact h rfl
theorem below_drewQ (w : World) (n : Nat) : Below w.heap.size w (w.drewN n) := ⟨rfl, rfl, rfl, Nat.le_refl _, fun _ _ => rfl⟩
set_option maxHeartbeats 400000 in
theorem equalRefs_any (N M : Nat → Prop) (w : World) (v u : Value) (xs ys : List Int) (h : RefsAt N w v xs) (h' : RefsAt M w u ys) (hl : xs.length ≤ 1000000) (hl' : ys.length ≤ 1000000) :
    Calls Tryz.prog 268 #[v, u] w fun e w' => e = .returned (.bool (xs == ys)) ∧ Below w.heap.size w w' := by
  obtain ⟨p, cap, rfl, hc⟩ : ∃ p cap, v = .slice p xs.length cap ∧ ∀ j, j < xs.length → ∃ b off, p = some ⟨b, off, none⟩ ∧ w.cell? ⟨b, off + j, none⟩ = some (.int .i64 (xs.getD j 0)) := by
    rcases h with ⟨rfl, rfl⟩ | ⟨b, off, cap, rfl, _, _, _, _, hcell⟩
    · exact ⟨none, 0, rfl, fun j hj => by simp at hj⟩
    · exact ⟨_, cap, rfl, fun j hj => ⟨b, off, rfl, hcell j hj⟩⟩
  obtain ⟨p', cap', rfl, hc'⟩ : ∃ p cap, u = .slice p ys.length cap ∧ ∀ j, j < ys.length → ∃ b off, p = some ⟨b, off, none⟩ ∧ w.cell? ⟨b, off + j, none⟩ = some (.int .i64 (ys.getD j 0)) := by
    rcases h' with ⟨rfl, rfl⟩ | ⟨b, off, cap, rfl, _, _, _, _, hcell⟩
    · exact ⟨none, 0, rfl, fun j hj => by simp at hj⟩
    · exact ⟨_, cap, rfl, fun j hj => ⟨b, off, rfl, hcell j hj⟩⟩
  have HC := Lib.hid hc; have HC' := Lib.hid hc'
  clear hc hc' h h'
  by_cases hlen : xs.length = ys.length
  · have HL := Lib.hid hlen
    rw [← hlen]
    clear hlen
    go_enter Tryz.func268, Tryz.ntmps268
    go_wp2_with fail
    go_loopw [13] (fun i W => ∃ k : Nat, k ≤ xs.length ∧ i = .int .i64 (k : Int) ∧ (∀ n, n < k → xs.getD n 0 = ys.getD n 0) ∧ ∃ q, W = w.drewN q) (fun i _ => xs.length - (intOf i).toNat)
    case atStart => exact ⟨0, by omega, rfl, fun n hn => by omega, 0, rfl⟩
    case round =>
      obtain ⟨k, hk, rfl, ha, q, rfl⟩ := hrel
      have HA := Lib.hid ha
      clear ha
      by_cases hlt : k < xs.length
      · obtain ⟨b, off, rfl, c⟩ := HC.out k hlt
        obtain ⟨b', off', rfl, c'⟩ := HC'.out k (by rw [← HL.out]; exact hlt)
        by_cases he : xs.getD k 0 = ys.getD k 0
        · have HS := Lib.hid (show ∀ n, n < k + 1 → xs.getD n 0 = ys.getD n 0 from fun n hn => by by_cases e : n = k; (rw [e]; exact he); exact HA.out n (by omega))
          have q1 : (xs.getD k 0 != ys.getD k 0) = false := by rw [he]; simp
          clear he
          generalize xs.getD k 0 = x at *
          generalize ys.getD k 0 = y at *
          go_wp2_with fail
          go_quiet (fail)
          go_wp2_with fail
          go_roundw
          case rel => exact ⟨k + 1, by omega, by go_num, HS.out, q + nq, by simp⟩
          case measure => simp [intOf]; omega
        · have HS := Lib.hid (ne_at k he)
          have q1 : (xs.getD k 0 != ys.getD k 0) = true := by simpa using he
          clear he
          generalize xs.getD k 0 = x at *
          generalize ys.getD k 0 = y at *
          go_wp2_with fail
          go_quiet (fail)
          go_wp2_with fail
          go_ret
          exact ⟨by rw [HS.out]; rfl, (below_drewQ w q).trans ((below_drewQ _ nq).mono (Nat.le_refl _))⟩
      · obtain rfl : k = xs.length := by omega
        have HS := Lib.hid (eq_at HL.out HA.out)
        go_wp2_with fail
        go_ret
        exact ⟨by rw [HS.out]; rfl, below_drewQ w q⟩
  · have HS := Lib.hid (ne_len hlen)
    have q1 : ((xs.length : Int) != (ys.length : Int)) = true := by simp; omega
    have q2 : (xs.length != ys.length) = true := by simpa using hlen
    clear hlen
    go_enter Tryz.func268, Tryz.ntmps268
    go_wp2_with fail
    go_ret
    exact ⟨by rw [HS.out]; rfl, Below.refl _ _⟩
theorem PairsAt.view {N : Nat → Prop} {w : World} {v : Value} {xs : List Ct.Pair} (h : PairsAt N w v xs) : ∃ p cap, v = .slice p xs.length cap ∧ ∀ j, j < xs.length → ∃ b off, p = some ⟨b, off, none⟩ ∧ b < w.heap.size ∧ w.cell? ⟨b, off + j * 2, none⟩ = some (.string (xs.getD j ⟨.empty, 0⟩).key) ∧ w.cell? ⟨b, off + j * 2 + 1, none⟩ = some (.int .u64 ((xs.getD j ⟨.empty, 0⟩).value : Nat)) := by
  rcases h with ⟨rfl, rfl⟩ | ⟨b, off, cap, rfl, _, hb, _, _, hcell⟩
  · exact ⟨none, 0, rfl, fun j hj => by simp at hj⟩
  · exact ⟨_, cap, rfl, fun j hj => ⟨b, off, rfl, hb, by rw [Nat.mul_comm]; exact (hcell j hj).1, by rw [Nat.mul_comm]; exact (hcell j hj).2⟩⟩
theorem pv_from : ∀ (l : List Ct.Pair) (k : Nat), 1 ≤ k → k ≤ l.length → (∀ n, 1 ≤ n → n < k → Ct.keyLt (l.getD (n - 1) ⟨.empty, 0⟩).key (l.getD n ⟨.empty, 0⟩).key = true) → Ct.pairsValid l = Ct.pairsValid (l.drop (k - 1))
  | [], k, h1, h2, _ => by simp at h2; omega
  | [a], k, h1, h2, _ => by
    have : k = 1 := by simp at h2; omega
    subst this; rfl
  | a :: b :: l, k, h1, h2, h => by
    by_cases e : k = 1
    · subst e; rfl
    · have hh := h 1 (by omega) (by omega)
      simp at hh
      have ih := pv_from (b :: l) (k - 1) (by omega) (by simp at h2 ⊢; omega) (fun n hn1 hn2 => by
        have := h (n + 1) (by omega) (by omega)
        obtain ⟨m, rfl⟩ : ∃ m, n = m + 1 := ⟨n - 1, by omega⟩
        simpa using this)
      rw [Ct.pairsValid, hh, ih]
      obtain ⟨m, rfl⟩ : ∃ m, k = m + 2 := ⟨k - 2, by omega⟩
      simp
theorem pv_no (l : List Ct.Pair) (k : Nat) (h1 : 1 ≤ k) (hk : k < l.length) (h : ∀ n, 1 ≤ n → n < k → Ct.keyLt (l.getD (n - 1) ⟨.empty, 0⟩).key (l.getD n ⟨.empty, 0⟩).key = true) (hn : Ct.keyLt (l.getD (k - 1) ⟨.empty, 0⟩).key (l.getD k ⟨.empty, 0⟩).key = false) : Ct.pairsValid l = false := by
  rw [pv_from l k h1 (by omega) h]
  obtain ⟨m, rfl⟩ : ∃ m, k = m + 1 := ⟨k - 1, by omega⟩
  have e1 : l.drop m = l.getD m ⟨.empty, 0⟩ :: l.getD (m + 1) ⟨.empty, 0⟩ :: l.drop (m + 2) := by
    rw [List.drop_eq_getElem_cons (by omega), List.drop_eq_getElem_cons hk]
    simp [List.getD_eq_getElem?_getD, List.getElem?_eq_getElem hk, List.getElem?_eq_getElem (show m < l.length by omega)]
  show Ct.pairsValid (l.drop m) = false
  rw [e1, Ct.pairsValid]
  simp at hn ⊢
  intro hf; rw [hn] at hf; cases hf
theorem pv_yes (l : List Ct.Pair) (h : ∀ n, 1 ≤ n → n < l.length → Ct.keyLt (l.getD (n - 1) ⟨.empty, 0⟩).key (l.getD n ⟨.empty, 0⟩).key = true) : Ct.pairsValid l = true := by
  by_cases e : l.length = 0
  · rw [List.length_eq_zero_iff.1 e]; rfl
  · rw [pv_from l l.length (by omega) (Nat.le_refl _) h]
    have : (l.drop (l.length - 1)).length = 1 := by simp; omega
    match hd : l.drop (l.length - 1), this with
    | [a], _ => rfl
set_option maxHeartbeats 400000 in
theorem pairsValid_any (N : Nat → Prop) (w : World) (v : Value) (xs : List Ct.Pair) (h : PairsAt N w v xs) (hl : xs.length ≤ 549755813888) :
    Calls Tryz.prog 177 #[v] w fun e w' => e = .returned (.bool (Ct.pairsValid xs)) ∧ Below w.heap.size w w' := by
  obtain ⟨p, cap, rfl, hc⟩ := h.view
  have HC := Lib.hid hc
  clear hc h
  go_enter Tryz.func177, Tryz.ntmps177
  go_wp2_with fail
  go_loopw [3] (fun i W => ∃ k : Nat, 1 ≤ k ∧ (k ≤ xs.length ∨ k = 1) ∧ i = .int .i64 (k : Int) ∧ (∀ n, 1 ≤ n → n < k → Ct.keyLt (xs.getD (n - 1) ⟨.empty, 0⟩).key (xs.getD n ⟨.empty, 0⟩).key = true) ∧ ∃ q, W = w.drewN q) (fun i _ => xs.length - (intOf i).toNat)
  case atStart => exact ⟨1, by omega, .inr rfl, rfl, fun n h1 hn => by omega, 0, rfl⟩
  case round =>
    obtain ⟨k, h1, hk, rfl, ha, q, rfl⟩ := hrel
    have HA := Lib.hid ha
    clear ha
    by_cases hlt : k < xs.length
    · obtain ⟨b, off, rfl, _, c, _⟩ := HC.out k hlt
      obtain ⟨b', off', e', _, c', _⟩ := HC.out (k - 1) (by omega)
      injection e' with e'; injection e' with e1 e2; subst e1 e2
      have hk1 : ((k : Int) - 1) = ((k - 1 : Nat) : Int) := by omega
      have hlt' : k - 1 < xs.length := by omega
      by_cases he : Ct.keyLt (xs.getD (k - 1) ⟨.empty, 0⟩).key (xs.getD k ⟨.empty, 0⟩).key = true
      · have HS := Lib.hid (show ∀ n, 1 ≤ n → n < k + 1 → Ct.keyLt (xs.getD (n - 1) ⟨.empty, 0⟩).key (xs.getD n ⟨.empty, 0⟩).key = true from fun n hn1 hn => by by_cases e : n = k; (rw [e]; exact he); exact HA.out n hn1 (by omega))
        generalize (xs.getD k ⟨.empty, 0⟩).key = x at *
        generalize (xs.getD (k - 1) ⟨.empty, 0⟩).key = y at *
        unfold Ct.keyLt at he
        go_wp2_with fail
        go_quiet (fail)
        go_wp2_with fail
        go_roundw
        case rel => exact ⟨k + 1, by omega, .inl (by omega), by go_num, HS.out, q + nq, by simp⟩
        case measure => simp [intOf]; omega
      · have he' : Ct.keyLt (xs.getD (k - 1) ⟨.empty, 0⟩).key (xs.getD k ⟨.empty, 0⟩).key = false := by simpa using he
        have HS := Lib.hid (pv_no xs k h1 hlt HA.out he')
        clear he
        generalize (xs.getD k ⟨.empty, 0⟩).key = x at *
        generalize (xs.getD (k - 1) ⟨.empty, 0⟩).key = y at *
        unfold Ct.keyLt at he'
        go_wp2_with fail
        go_quiet (fail)
        go_wp2_with fail
        go_ret
        exact ⟨by rw [HS.out]; rfl, (below_drewQ w q).trans ((below_drewQ _ nq).mono (Nat.le_refl _))⟩
    · have HS := Lib.hid (pv_yes xs (fun n hn1 hn2 => HA.out n hn1 (by omega)))
      go_wp2_with fail
      go_ret
      exact ⟨by rw [HS.out]; rfl, below_drewQ w q⟩
theorem below_cell {w W : World} (hb : Below w.heap.size w W) {b o : Nat} {v : Value} (hlt : b < w.heap.size) (h : w.cell? ⟨b, o, none⟩ = some v) : W.cell? ⟨b, o, none⟩ = some v := (hb.cell (p := ⟨b, o, none⟩) hlt).trans h
theorem pairsEq_iff : ∀ xs ys : List Ct.Pair, Ct.pairsEq xs ys = true ↔ xs.length = ys.length ∧ ∀ n, n < xs.length → Ct.pairEq (xs.getD n ⟨.empty, 0⟩) (ys.getD n ⟨.empty, 0⟩) = true
  | [], [] => by simp [Ct.pairsEq]
  | [], b :: k => by simp [Ct.pairsEq]
  | a :: l, [] => by simp [Ct.pairsEq]
  | a :: l, b :: k => by
    rw [Ct.pairsEq, Bool.and_eq_true, pairsEq_iff l k]
    constructor
    · rintro ⟨h1, h2, h3⟩
      refine ⟨by simp [h2], fun n hn => ?_⟩
      cases n with
      | zero => simpa using h1
      | succ n => simpa using h3 n (by simpa using hn)
    · rintro ⟨h1, h2⟩
      exact ⟨by simpa using h2 0 (by simp), by simpa using h1, fun n hn => by simpa using h2 (n + 1) (by simpa using hn)⟩
theorem neq_pair (p q : Ct.Pair) (W : World) : (binOp BinOp.neq 211 (.agg #[.string p.key, .int .u64 (p.value : Nat)]) (.agg #[.string q.key, .int .u64 (q.value : Nat)])).run Tryz.prog W = .ok (.bool (!Ct.pairEq p q)) W := by
  have u3 := Tryz.underlying9
  have a3 := Tryz.isAgg9
  have z3 := Tryz.sizeOf9
  have u4 := Tryz.underlying27
  have a4 := Tryz.isAgg27
  have z4 := Tryz.sizeOf27
  have hS : Tryz.prog.underlying 211 = some (.struct (Tryz.prog.fieldsOf 211)) := by kernel_rfl
  have hp : Tryz.prog.stoodInHeld 211 = false := by kernel_rfl
  rw [run_neq_struct, show (10000 : Nat) = 9999 + 1 from rfl, run_equalIn_agg W 9999 211 _ _ hS hp]
  simp only [Program.fieldsOf, Tryz.underlying211]
  go_simp
  unfold Ct.pairEq Ct.keyEq
  by_cases h1 : p.key.toList = q.key.toList <;> by_cases h2 : p.value = q.value
  · simp [h1, h2]
  · have h3 : ¬ ((p.value : Int) = q.value) := by omega
    simp [h1, h2, h3]
  · simp [h1, h2]
  · simp [h1]
set_option maxHeartbeats 400000 in
theorem equalPairs_any (N M : Nat → Prop) (w : World) (v u : Value) (xs ys : List Ct.Pair) (h : PairsAt N w v xs) (h' : PairsAt M w u ys) (hl : xs.length ≤ 549755813888) (hl' : ys.length ≤ 549755813888) :
    Calls Tryz.prog 269 #[v, u] w fun e w' => e = .returned (.bool (Ct.pairsEq xs ys)) ∧ Below w.heap.size w w' := by
  obtain ⟨p, cap, rfl, hc⟩ := h.view
  obtain ⟨p', cap', rfl, hc'⟩ := h'.view
  have HC := Lib.hid hc; have HC' := Lib.hid hc'
  clear hc hc' h h'
  by_cases hlen : xs.length = ys.length
  · have HL := Lib.hid hlen
    rw [← hlen]
    clear hlen
    go_enter Tryz.func269, Tryz.ntmps269
    go_wp2_with fail
    go_loopw [13] (fun i W => ∃ k : Nat, k ≤ xs.length ∧ i = .int .i64 (k : Int) ∧ (∀ n, n < k → Ct.pairEq (xs.getD n ⟨.empty, 0⟩) (ys.getD n ⟨.empty, 0⟩) = true) ∧ Below w.heap.size w W) (fun i _ => xs.length - (intOf i).toNat)
    case atStart => exact ⟨0, by omega, rfl, fun n hn => by omega, Below.refl _ _⟩
    case round =>
      obtain ⟨k, hk, rfl, ha, hB⟩ := hrel
      have HA := Lib.hid ha
      clear ha
      by_cases hlt : k < xs.length
      · obtain ⟨b, off, rfl, hb, c0, c1⟩ := HC.out k hlt
        obtain ⟨b', off', rfl, hb', c2, c3⟩ := HC'.out k (by rw [← HL.out]; exact hlt)
        have d0 := below_cell hB hb c0; have d1 := below_cell hB hb c1; have d2 := below_cell hB hb' c2; have d3 := below_cell hB hb' c3
        clear c0 c1 c2 c3
        by_cases he : Ct.pairEq (xs.getD k ⟨.empty, 0⟩) (ys.getD k ⟨.empty, 0⟩) = true
        · have HS := Lib.hid (show ∀ n, n < k + 1 → Ct.pairEq (xs.getD n ⟨.empty, 0⟩) (ys.getD n ⟨.empty, 0⟩) = true from fun n hn => by by_cases e : n = k; (rw [e]; exact he); exact HA.out n (by omega))
          generalize xs.getD k ⟨.empty, 0⟩ = x at *
          generalize ys.getD k ⟨.empty, 0⟩ = y at *
          have hq : ∀ W, (binOp BinOp.neq 211 (.agg #[.string x.key, .int .u64 (x.value : Nat)]) (.agg #[.string y.key, .int .u64 (y.value : Nat)])).run Tryz.prog W = .ok (.bool false) W := fun W => by rw [neq_pair, he]; rfl
          clear he
          go_wp2_with fail
          go_quiet (fail)
          go_wp2_with fail
          go_roundw
          case rel => exact ⟨k + 1, by omega, by go_num, HS.out, hB.trans ((below_drewQ _ nq).mono hB.size)⟩
          case measure => simp [intOf]; omega
        · have he' : Ct.pairEq (xs.getD k ⟨.empty, 0⟩) (ys.getD k ⟨.empty, 0⟩) = false := by simpa using he
          have HS := Lib.hid (show Ct.pairsEq xs ys = false by
            cases hp : Ct.pairsEq xs ys with
            | false => rfl
            | true => have := ((pairsEq_iff xs ys).1 hp).2 k hlt; rw [he'] at this; cases this)
          clear he
          generalize xs.getD k ⟨.empty, 0⟩ = x at *
          generalize ys.getD k ⟨.empty, 0⟩ = y at *
          have hq : ∀ W, (binOp BinOp.neq 211 (.agg #[.string x.key, .int .u64 (x.value : Nat)]) (.agg #[.string y.key, .int .u64 (y.value : Nat)])).run Tryz.prog W = .ok (.bool true) W := fun W => by rw [neq_pair, he']; rfl
          clear he'
          go_wp2_with fail
          go_quiet (fail)
          go_wp2_with fail
          go_ret
          exact ⟨by rw [HS.out]; rfl, hB.trans ((below_drewQ _ nq).mono hB.size)⟩
      · obtain rfl : k = xs.length := by omega
        have HS := Lib.hid ((pairsEq_iff xs ys).2 ⟨HL.out, HA.out⟩)
        go_wp2_with fail
        go_ret
        exact ⟨by rw [HS.out]; rfl, hB⟩
  · have HS := Lib.hid (show Ct.pairsEq xs ys = false by
      cases hp : Ct.pairsEq xs ys with
      | false => rfl
      | true => exact absurd ((pairsEq_iff xs ys).1 hp).1 hlen)
    have q1 : ((xs.length : Int) != (ys.length : Int)) = true := by simp; omega
    have q2 : (xs.length != ys.length) = true := by simpa using hlen
    clear hlen
    go_enter Tryz.func269, Tryz.ntmps269
    go_wp2_with fail
    go_ret
    exact ⟨by rw [HS.out]; rfl, Below.refl _ _⟩
end Go.Proofs.YtjlgchdekhmnnaaGreatDoor
end
section
namespace Go.Proofs.YtjlgchdekhmnnaaGreatDoor
open Go.RowKit
set_option linter.unusedVariables false
set_option linter.unusedSimpArgs false
theorem eq_nat (x y : Nat) : ((x : Int) == (y : Int)) = (x == y) := by
  by_cases h : x = y
  · simp [h]
  · have h1 : ¬ ((x : Int) = y) := by omega
    rw [beq_eq_false_iff_ne.2 h, beq_eq_false_iff_ne.2 h1]
theorem bcell {w W : World} (hb : Below w.heap.size w W) : (∀ b o, b < w.heap.size → W.cell? ⟨b, o, none⟩ = w.cell? ⟨b, o, none⟩) :=
  fun b o h => hb.cell (p := ⟨b, o, none⟩) h
set_option maxRecDepth 100000 in
set_option maxHeartbeats 800000 in
theorem equal_14 (N M : Nat → Prop) (w : World) (a b : Ct.Node) (bv pv bu pu : Value) (h1 : RefsAt N w bv a.branches) (h2 : PairsAt N w pv a.pairs) (h3 : RefsAt M w bu b.branches) (h4 : PairsAt M w pu b.pairs) (l1 : a.branches.length ≤ 1000000) (l2 : a.pairs.length ≤ 549755813888) (l3 : b.branches.length ≤ 1000000) (l4 : b.pairs.length ≤ 549755813888) (q0 : (a.kind == b.kind) = true) (q1 : (a.gen == b.gen) = true) (q2 : (a.main == b.main) = true) (q3 : ((a.bitmap : Int) == (b.bitmap : Int)) = true) (q4 : (a.branches == b.branches) = true) (q5 : ((a.hash : Int) == (b.hash : Int)) = true) (q6 : (a.key.toList == b.key.toList) = true) (q7 : ((a.value : Int) == (b.value : Int)) = true) (q8 : Ct.pairsEq a.pairs b.pairs = true) (q9 : (a.prev == b.prev) = true) (q10 : (a.old == b.old) = true) (q11 : (a.expected == b.expected) = true) (q12 : (a.new == b.new) = true) (q13 : (a.status == b.status) = true) :
    Calls Tryz.prog 241 #[.agg (nodeCells a bv pv).toArray, .agg (nodeCells b bu pu).toArray] w fun e w' => e = .returned (.bool true) ∧ Below w.heap.size w w' := by
  have HB := Lib.hid (((Below.refl w.heap.size w).alloc (Nat.le_refl _) (.cells (nodeCells a bv pv).toArray 136)).alloc (by simp) (.cells (nodeCells b bu pu).toArray 136))
  unfold nodeCells at HB ⊢
  have Q4 := Lib.hid q4; clear q4
  have Q8 := Lib.hid q8; clear q8
  go_enter Tryz.func241, Tryz.ntmps241
  go_wp2_with (first | (go_at_call 268; refine (equalRefs_any N M _ _ _ _ _ (h1.keep (Keep.below HB.out (fun _ => False)) (fun _ h => h.elim) (fun _ h => .inl h)) (h3.keep (Keep.below HB.out (fun _ => False)) (fun _ h => h.elim) (fun _ h => .inl h)) l1 l3).mono ?_; rintro e w1 ⟨rfl, hb1⟩; rw [Q4.out]; have hc1 := bcell hb1; simp at hc1) | (go_at_call 269; refine (equalPairs_any N M _ _ _ _ _ (h2.keep (Keep.below (below_then HB.out HB.out.size hb1) (fun _ => False)) (fun _ h => h.elim) (fun _ h => .inl h)) (h4.keep (Keep.below (below_then HB.out HB.out.size hb1) (fun _ => False)) (fun _ h => h.elim) (fun _ h => .inl h)) l2 l4).mono ?_; rintro e w2 ⟨rfl, hb2⟩; rw [Q8.out]; have hc2 := bcell hb2; have z1 : w.heap.size + 1 < w1.heap.size := (by have := hb1.size; simp at this; omega); have z0 : w.heap.size < w1.heap.size := by omega))
  go_ret
  exact ⟨rfl, (below_then (below_then HB.out HB.out.size hb1) (below_then HB.out HB.out.size hb1).size hb2)⟩
theorem equal_yes (N M : Nat → Prop) (w : World) (a b : Ct.Node) (bv pv bu pu : Value) (h1 : RefsAt N w bv a.branches) (h2 : PairsAt N w pv a.pairs) (h3 : RefsAt M w bu b.branches) (h4 : PairsAt M w pu b.pairs) (l1 : a.branches.length ≤ 1000000) (l2 : a.pairs.length ≤ 549755813888) (l3 : b.branches.length ≤ 1000000) (l4 : b.pairs.length ≤ 549755813888) (he : Ct.nodeEq a b = true) :
    Calls Tryz.prog 241 #[.agg (nodeCells a bv pv).toArray, .agg (nodeCells b bu pu).toArray] w fun e w' => e = .returned (.bool true) ∧ Below w.heap.size w w' := by
  unfold Ct.nodeEq Ct.keyEq at he
  simp only [← eq_nat, Bool.and_eq_true] at he
  obtain ⟨⟨⟨⟨⟨⟨⟨q0, q1⟩, q2⟩, q3⟩, q5⟩, q6⟩, q7⟩, q4, q8, q9, q10, q11, q12, q13⟩ := he
  exact equal_14 N M w a b bv pv bu pu h1 h2 h3 h4 l1 l2 l3 l4 q0 q1 q2 q3 q4 q5 q6 q7 q8 q9 q10 q11 q12 q13
end Go.Proofs.YtjlgchdekhmnnaaGreatDoor
end
