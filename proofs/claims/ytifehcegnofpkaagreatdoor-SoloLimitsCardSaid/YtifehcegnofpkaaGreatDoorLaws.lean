/- Laws that the kit lacks: copy of a whole slice of whatever elements into a new row. -/
import Derived.WalkKit
import Derived.OwnWalk
import Derived.Laws.CopyOwn
namespace Go.Proofs.YtifehcegnofpkaaGreatDoor
open Go.RowKit

theorem run_copy_full {P : Program} (w : World) (dT sT ty elem : TypeId) (i : TypeInfo) (size : Nat) (g n : Nat) (a : Addr) (sCap dCap : Nat) (cur : Array Value) (t : TypeId) (cs : List Value)
    (hu : P.underlying dT = some (.slice elem)) (hi : P.info? elem = some i) (hs : i.size = size)
    (hg : w.heap[g]? = some (.cells cur t (0, 0))) (hn : cs.length = n * size) (hc : cur.size = cs.length)
    (hsrc : ∀ j v, cs[j]? = some v → w.cell? (a.add j) = some v) (h1 : ∀ v ∈ cs, v.oneCell' = true) :
    (Builtin.copy_ #[dT, sT] ty #[.slice (some ⟨g, 0, none⟩) n dCap, .slice (some a) n sCap]).run P w = .ok (goInt n) (w.setRow g cs.toArray) := by
  have hl := run_firstCells_some (P := P) w size n a n sCap cs hn hsrc
  have hst := run_storeCells_at P g 0 t cs 0 cur w hg (by omega) h1
  have e : (cur.toList.take (0 + 0) ++ cs ++ cur.toList.drop (0 + 0 + cs.length)) = cs := by
    have : cur.toList.drop (0 + 0 + cs.length) = [] := List.drop_eq_nil_of_le (by simp; omega)
    rw [this]; simp
  rw [e] at hst
  simp [Builtin.copy_, run_underlying hu, Builtin.lenOf, sizeOf, typeInfo, hi, hs, hl, hst]

/-- 'copy(out, src)', out a row of the call's own of src's length. -/
theorem wpList_copy_full {P : Program} {w : World} {ops : Array Oper} {rest : List Oper} {o : Oper} {a : Act} {Q : Exit → Act → World → Prop} (hgd : o.guard = none) (d s : Operand) (dT sT : TypeId)
    (ho : o.op = .call { callee := .builtin .copy, args := #[d, s], argTypes := #[dT, sT] }) (base : Nat) (elem : TypeId) (i : TypeInfo) (size : Nat) (hu : P.underlying dT = some (.slice elem)) (hi : P.info? elem = some i) (hsz : i.size = size)
    (g n : Nat) (olds : List Value) (hd : a.eval d = .slice (some ⟨g, 0, none⟩) n n) (hown : w.ownsRow base elem size (.slice (some ⟨g, 0, none⟩) n n) n olds)
    (ad : Addr) (sCap : Nat) (hs : a.eval s = .slice (some ad) n sCap) (cs : List Value) (hl : cs.length = n * size)
    (hsrc : ∀ j v, cs[j]? = some v → w.cell? (ad.add j) = some v) (h1 : ∀ v ∈ cs, v.oneCell' = true)
    (h : ∀ w', w'.ownsRow base elem size (.slice (some ⟨g, 0, none⟩) n n) n cs → w.grownBy w' (some g) → wpList P ops Q rest (a.put o.dst (goInt n)) w') : wpList P ops Q (o :: rest) a w := by
  refine wpList_plain hgd fun K hK => ?_
  rcases hown.2 with ⟨hv, _⟩ | ⟨g', cap, cur, hv, hb, hg, hc, hm, hcs, ht⟩
  · injection hv with h1 _ _; cases h1
  · injection hv with e1 e2 e3
    simp at e1
    subst e1 e3
    have hrun := run_copy_full (P := P) w dT sT o.type elem i size g n ad sCap n cur elem cs hu hi hsz hg hl (by rw [hcs, hl]) hsrc h1
    unfold Oper.wp
    simp [execOp, ho, resolve, invoke, builtin, hd, hs, hrun, Result.andThen]
    refine hK _ _ (h _ ?_ ?_)
    · refine ⟨hl, .inr ⟨g, n, cs.toArray, rfl, hb, setRow_heap w g cur _ elem _ hg, Nat.le_refl _, hm, by simp [hl], ?_⟩⟩
      simp [← hl]
    · exact ⟨rfl, rfl, rfl, by simp [World.setRow], fun k _ hne => setRow_other w g k _ (fun e => hne (by rw [e]))⟩
end Go.Proofs.YtifehcegnofpkaaGreatDoor
