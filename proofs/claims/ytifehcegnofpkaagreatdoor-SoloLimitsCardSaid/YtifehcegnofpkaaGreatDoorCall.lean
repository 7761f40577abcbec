/- Every closure does what the plain model says. -/
import Derived.Test.YtifehcegnofpkaaGreatDoorS5
import Derived.Test.YtifehcegnofpkaaGreatDoorKwt
namespace Go.Proofs.YtifehcegnofpkaaGreatDoor
open Go.RowKit

/-- The contract of a closure, by how it is called. -/
def CallK (k : Ct.K) : Prop := match k.how with
  | .ref => CallRef k
  | .bool => CallBool k
  | .thunk => CallThunk k
  | .ref2 => CallRef2 k
theorem CallK.ref {k : Ct.K} (h : CallK k) (e : k.how = .ref) : CallRef k := by unfold CallK at h; rw [e] at h; exact h
theorem CallK.bool {k : Ct.K} (h : CallK k) (e : k.how = .bool) : CallBool k := by unfold CallK at h; rw [e] at h; exact h
theorem CallK.thunk {k : Ct.K} (h : CallK k) (e : k.how = .thunk) : CallThunk k := by unfold CallK at h; rw [e] at h; exact h
theorem CallK.ref2 {k : Ct.K} (h : CallK k) (e : k.how = .ref2) : CallRef2 k := by unfold CallK at h; rw [e] at h; exact h

theorem call_ref2 (k : Ct.K) (e : k.how = .ref2) : CallRef2 k := by
  cases k <;> first | (cases e; done) | exact clo_snapP | exact clo_frzP

theorem call_all (k : Ct.K) : k.wt → CallK k := by
  induction k with
  | read1 _ _ _ ih => intro hk; exact clo_read1 _ _ _ ((ih hk.2).ref hk.1)
  | settle1 _ _ _ _ _ ih => intro hk; exact clo_settle1 _ _ _ _ _ ((ih hk.2).ref hk.1)
  | again1 _ _ _ _ _ ih => intro hk; exact clo_again1 _ _ _ _ _ ((ih hk.2).ref hk.1)
  | again2 _ _ _ _ ih => intro hk; exact clo_again2 _ _ _ _ ((ih hk.2).ref hk.1)
  | sroot _ _ _ _ _ ih => intro hk; exact clo_sroot _ _ _ _ _ ((ih hk.2).bool hk.1)
  | back1 _ _ ih => intro hk; exact clo_back1 _ _ ((ih hk.2).ref hk.1)
  | root1 _ _ ih => intro hk; exact clo_root1 _ _ ((ih hk.2).ref hk.1)
  | root2 _ _ _ _ ih => intro hk; exact clo_root2 _ _ _ _ ((ih hk.2).ref hk.1)
  | root3 _ _ _ _ ih => intro hk; exact clo_root3 _ _ _ _ ((ih hk.2).ref hk.1)
  | root4 _ _ _ ih => intro hk; exact clo_root4 _ _ _ ((ih hk.2).ref hk.1)
  | complete1 _ _ ih => intro hk; exact clo_complete1 _ _ ((ih hk.2).ref hk.1)
  | help1 _ _ ih => intro hk; exact clo_help1 _ _ ((ih hk.2).ref hk.1)
  | help2 _ _ _ _ ih => intro hk; exact clo_help2 _ _ _ _ ((ih hk.2).ref hk.1)
  | help3 _ _ _ _ ih => intro hk; exact clo_help3 _ _ _ _ ((ih hk.2).ref hk.1)
  | help4 _ _ _ ih => intro hk; exact clo_help4 _ _ _ ((ih hk.2).ref hk.1)
  | decide1 _ _ ih => intro hk; exact clo_decide1 _ _ ((ih hk.2).thunk hk.1)
  | decide2 _ ih => intro hk; exact clo_decide2 _ ((ih hk.2).thunk hk.1)
  | repl1 _ _ _ _ ih => intro hk; exact clo_repl1 _ _ _ _ ((ih hk.2).bool hk.1)
  | repl2 _ _ _ _ ih => intro hk; exact clo_repl2 _ _ _ _ ((ih hk.2).bool hk.1)
  | repl3 _ _ _ ih => intro hk; exact clo_repl3 _ _ _ ((ih hk.2).bool hk.1)
  | repl4 _ _ ih => intro hk; exact clo_repl4 _ _ ((ih hk.2).bool hk.1)
  | clr0 _ => intro _; exact clo_clr0 _
  | clr1 _ => intro _; exact clo_clr1 _
  | clr2 _ _ => intro _; exact clo_clr2 _ _
  | clr3 _ => intro _; exact clo_clr3 _
  | snap0 _ => intro _; exact clo_snap0 _
  | snapR1 _ => intro _; exact clo_snapR1 _
  | snapR2  => intro _; exact clo_snapR2 
  | snapP  => intro _; exact clo_snapP 
  | frz0 _ => intro _; exact clo_frz0 _
  | frzR1  => intro _; exact clo_frzR1 
  | frzP  => intro _; exact clo_frzP 
  | part1 _ _ ih => intro hk; exact clo_part1 _ _ (call_ref2 _ hk)
  | part2 _ _ _ ih => intro hk; exact clo_part2 _ _ _ (call_ref2 _ hk)
  | part3 _ _ _ _ ih => intro hk; exact clo_part3 _ _ _ _ (call_ref2 _ hk)
  | fin _ => intro _; exact clo_fin _
end Go.Proofs.YtifehcegnofpkaaGreatDoor