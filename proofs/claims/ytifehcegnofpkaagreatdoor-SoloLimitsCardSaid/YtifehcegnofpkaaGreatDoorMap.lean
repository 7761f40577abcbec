/- Maps from int in memory. -/
import Derived.Test.YtifehcegnofpkaaGreatDoorTaskQ
import Derived.MapKept
namespace Go.Proofs.YtifehcegnofpkaaGreatDoor
open Go.RowKit
set_option linter.unusedVariables false

/-- What a map of ints holds at a key. -/
def mlook (es : List (Int × Value)) (k : Int) : Option Value := (es.find? (fun p => p.1 == k)).map (·.2)
/-- A map with a value at a key. -/
def mput (es : List (Int × Value)) (k : Int) (v : Value) : List (Int × Value) := if es.any (fun p => p.1 == k) then es.map (fun p => if p.1 == k then (k, v) else p) else es ++ [(k, v)]

def entryOf (e : MapEntry) : Value × Value := (e.key, e.val)
/-- A map's block; its keys differ. -/
def MapAt (w : World) (m : Nat) (es : List (Int × Value)) : Prop :=
  ∃ (xs : Array MapEntry) (clock : Nat), w.heap[m]? = some (.map xs clock) ∧ xs.toList.map entryOf = es.map (fun p => (Value.int .i64 p.1, p.2)) ∧ (es.map (·.1)).Nodup
theorem MapAt.lt {w : World} {m : Nat} {es : List (Int × Value)} (h : MapAt w m es) : m < w.heap.size := by obtain ⟨xs, cl, h, _⟩ := h; exact (Array.getElem?_eq_some_iff.1 h).1
theorem MapAt.keep {F : Nat → Prop} {w w' : World} {m : Nat} {es : List (Int × Value)} (h : MapAt w m es) (hk : Keep F w w') (hF : ¬ F m) : MapAt w' m es := by
  have hlt := h.lt
  obtain ⟨xs, cl, h, h2⟩ := h
  exact ⟨xs, cl, by rw [hk.block m hlt hF]; exact h, h2⟩
theorem MapAt.below {w w' : World} {m : Nat} {es : List (Int × Value)} (h : MapAt w m es) (hb : Below w.heap.size w w') : MapAt w' m es := h.keep (Keep.below hb (fun _ => False)) (fun h => h)

theorem findNow_int (k : Int) : ∀ (l : List MapEntry) (es : List (Int × Value)) (i : Nat), l.map entryOf = es.map (fun p => (Value.int .i64 p.1, p.2)) →
    ∃ r, Instr.findNow (.int .i64) (.int .i64 k) l i = some r ∧ r.map (·.2) = mlook es k ∧ (r.map (·.1) = (es.findIdx? (fun p => p.1 == k)).map (· + i))
  | [], es, i, h => by
    have : es = [] := by simpa using h.symm
    subst this
    exact ⟨none, rfl, rfl, rfl⟩
  | e :: l, [], i, h => by simp at h
  | e :: l, p :: es, i, h => by
    simp only [List.map_cons, List.cons.injEq] at h
    obtain ⟨h1, h2⟩ := h
    have ek : e.key = .int .i64 p.1 := congrArg Prod.fst h1
    have ev : e.val = p.2 := congrArg Prod.snd h1
    unfold Instr.findNow
    rw [ek]
    simp only [Instr.sameNow, if_true]
    by_cases hk : k = p.1
    · subst hk
      refine ⟨some (i, e.val), by simp, ?_, ?_⟩
      · simp [mlook, ev]
      · simp [List.findIdx?_cons]
    · obtain ⟨r, r1, r2, r3⟩ := findNow_int k l es (i + 1) h2
      have hb : (k == p.1) = false := by simpa using hk
      have hb' : (p.1 == k) = false := by simpa using fun e => hk e.symm
      refine ⟨r, by simp only [hb]; exact r1, ?_, ?_⟩
      · rw [r2]; simp [mlook, hb']
      · rw [r3]
        simp only [List.findIdx?_cons, hb']
        cases es.findIdx? (fun p => p.1 == k) <;> simp <;> omega

theorem run_lookup (T K E : TypeId) (hT : Tryz.prog.underlying T = some (.map K E)) (hK : Tryz.prog.underlying K = some (.int .i64)) (w : World) (m : Nat) (es : List (Int × Value)) (h : MapAt w m es) (z : Value) (hz : (zeroValue E).run Tryz.prog w = .ok z w) (k : Int) (ok : Bool) :
    (Instr.lookup T (.map (some m)) (.int .i64 k) ok).run Tryz.prog w = .ok (if ok then .tuple #[(mlook es k).getD z, .bool (mlook es k).isSome] else (mlook es k).getD z) w := by
  obtain ⟨xs, cl, h1, h2, _⟩ := h
  obtain ⟨r, r1, r2, _⟩ := findNow_int k xs.toList es 0 h2
  have hck : (Instr.checkKey xs.isEmpty 10000 K (.int .i64 k)).run Tryz.prog w = .ok () w := MapKept.run_checkKey hK (by constructor) _ _
  have hfk : (Instr.findKey K (.int .i64 k) xs.toList).run Tryz.prog w = .ok r w := by simp [Instr.findKey, run_underlying hK, r1, Result.andThen]
  cases r with
  | none =>
    have hn : mlook es k = none := by rw [← r2]; rfl
    cases ok <;> simp [Instr.lookup, run_underlying hT, MapKept.run_getObj_map h1, hck, hfk, hz, hn, Result.andThen]
  | some q =>
    have hn : mlook es k = some q.2 := by rw [← r2]; rfl
    cases ok <;> simp [Instr.lookup, run_underlying hT, MapKept.run_getObj_map h1, hck, hfk, hn, Result.andThen]

/-- A world with another map in a block. -/
def World.setMap (w : World) (m : Nat) (o : Obj) : World := { w with heap := w.heap.setIfInBounds m o }

theorem run_update (T K E : TypeId) (hT : Tryz.prog.underlying T = some (.map K E)) (hK : Tryz.prog.underlying K = some (.int .i64)) (w : World) (m : Nat) (es : List (Int × Value)) (h : MapAt w m es) (k : Int) (v : Value) :
    ∃ W, (Instr.mapUpdate T (.map (some m)) (.int .i64 k) v).run Tryz.prog w = .ok () W ∧ MapAt W m (mput es k v) ∧ Keep (fun b => b = m) w W ∧ W.heap.size = w.heap.size := by
  obtain ⟨xs, cl, h1, h2, hnd⟩ := h
  obtain ⟨r, r1, r2, r3⟩ := findNow_int k xs.toList es 0 h2
  have hlt := (Array.getElem?_eq_some_iff.1 h1).1
  have hck : (Instr.checkKey false 10000 K (.int .i64 k)).run Tryz.prog w = .ok () w := MapKept.run_checkKey hK (by constructor) _ _
  have hfk : (Instr.findKey K (.int .i64 k) xs.toList).run Tryz.prog w = .ok r w := by simp [Instr.findKey, run_underlying hK, r1, Result.andThen]
  have hkeep : ∀ o, Keep (fun b => b = m) w { w with heap := w.heap.setIfInBounds m o } := fun o => ⟨rfl, rfl, rfl, by simp, fun b _ hn => by rw [Array.getElem?_setIfInBounds, if_neg (fun e => hn e.symm)]⟩
  have hat : ∀ o, ({ w with heap := w.heap.setIfInBounds m o } : World).heap[m]? = some o := fun o => by simp [hlt]
  cases r with
  | none =>
    have hn : es.findIdx? (fun p => p.1 == k) = none := by
      cases hq : es.findIdx? (fun p => p.1 == k) with
      | none => rfl
      | some j => rw [hq] at r3; cases r3
    have hany : es.any (fun p => p.1 == k) = false := by
      rw [List.findIdx?_eq_none_iff] at hn
      simpa using hn
    refine ⟨_, by simp only [Instr.mapUpdate, Sem.run_bind, run_underlying hT, Result.andThen, MapKept.run_getObj_map h1, hck, hfk, MapKept.run_setObj_map _ h1]; rfl, ⟨_, _, hat _, ?_, ?_⟩, hkeep _, by simp⟩
    · unfold mput
      rw [hany]
      simp [h2, entryOf]
    · unfold mput
      rw [hany]
      simp only [Bool.false_eq_true, if_false, List.map_append, List.map_cons, List.map_nil]
      rw [List.nodup_append]
      refine ⟨hnd, by simp, fun a ha b hb e => ?_⟩
      simp at hb
      subst hb
      subst e
      simp only [List.any_eq_false, beq_iff_eq] at hany
      obtain ⟨p, hp, hp2⟩ := List.mem_map.1 ha
      exact hany p hp hp2
  | some q =>
    have hj : es.findIdx? (fun p => p.1 == k) = some q.1 := by
      cases hq : es.findIdx? (fun p => p.1 == k) with
      | none => rw [hq] at r3; cases r3
      | some j => rw [hq] at r3; simp at r3; rw [r3]
    obtain ⟨hj1, hj2, _⟩ := List.findIdx?_eq_some_iff_getElem.1 hj
    have hany : es.any (fun p => p.1 == k) = true := by
      rw [List.any_eq_true]; exact ⟨es[q.1], List.getElem_mem _, hj2⟩
    have hlen : xs.size = es.length := by have := congrArg List.length h2; simpa using this
    have hjx : q.1 < xs.size := by omega
    have hkey : xs[q.1].key = .int .i64 k := by
      have e1 : (xs.toList.map entryOf)[q.1]? = (es.map (fun p => (Value.int .i64 p.1, p.2)))[q.1]? := by rw [h2]
      simp [hjx, hj1, entryOf] at e1
      rw [e1.1]
      simp at hj2
      rw [hj2]
    have hks : (Instr.keyThatStays (((xs[q.1]?).map (·.key)).getD (.int .i64 k)) (.int .i64 k)).run Tryz.prog w = .ok (.int .i64 k) w := by
      have e1 : ((xs[q.1]?).map (·.key)).getD (.int .i64 k) = .int .i64 k := by simp [hjx, hkey]
      rw [e1]
      simp [Instr.keyThatStays, Instr.sameBits]
    refine ⟨_, by simp only [Instr.mapUpdate, Sem.run_bind, run_underlying hT, Result.andThen, MapKept.run_getObj_map h1, hck, hfk, hks, MapKept.run_setObj_map _ h1]; rfl, ⟨_, _, hat _, ?_, ?_⟩, hkeep _, by simp⟩
    · unfold mput
      rw [hany]
      simp only [if_true]
      apply List.ext_getElem?
      intro i
      have hi := congrArg (fun l => l[i]?) h2
      simp only [List.getElem?_map, Array.toList_modify, List.getElem?_modify] at hi ⊢
      by_cases hiq : q.1 = i
      · subst hiq
        simp at hj2
        simp [hjx, hj1, entryOf, hj2]
      · simp only [hiq, if_false]
        rw [show ((fun a : MapEntry => a) <$> xs.toList[i]?) = xs.toList[i]? from by cases xs.toList[i]? <;> rfl, hi]
        cases hes : es[i]? with
        | none => rfl
        | some p =>
          simp only [Option.map_some]
          have hne : (p.1 == k) = false := by
            have hp : i < es.length := (List.getElem?_eq_some_iff.1 hes).1
            have hpe : es[i] = p := (List.getElem?_eq_some_iff.1 hes).2
            simp only [beq_eq_false_iff_ne]
            intro e
            simp at hj2
            have := List.pairwise_iff_getElem.1 hnd
            rcases Nat.lt_or_ge q.1 i with hlt' | hge'
            · exact this q.1 i (by simpa using hj1) (by simpa using hp) hlt' (by simp [hj2, hpe, e])
            · exact this i q.1 (by simpa using hp) (by simpa using hj1) (by omega) (by simp [hj2, hpe, e])
          simp [hne]
    · unfold mput
      rw [hany]
      simp only [if_true]
      have : (es.map (fun p => if p.1 == k then (k, v) else p)).map (·.1) = es.map (·.1) := by
        rw [List.map_map]
        apply List.map_congr_left
        intro p _
        simp only [Function.comp]
        split
        · rename_i h; simpa using (by simpa using h : p.1 = k).symm
        · rfl
      rw [this]
      exact hnd
end Go.Proofs.YtifehcegnofpkaaGreatDoor
