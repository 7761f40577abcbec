/- How closures are called; that what they return is called as it must be. Nothing of the translation. -/
import Derived.Test.YtifehcegnofpkaaGreatDoorK
namespace Go.Ct

inductive How where
  | ref | bool | thunk | ref2
  deriving DecidableEq

def K.how : K → How
  | .again1 .. | .back1 .. | .root3 .. | .complete1 .. | .decide2 .. | .repl1 .. | .clr3 .. | .part3 .. => .bool
  | .help3 .. | .repl2 .. | .clr0 .. | .snap0 .. | .frz0 .. | .fin .. => .thunk
  | .snapP | .frzP => .ref2
  | _ => .ref

def K.wt : K → Prop
  | .read1 _ _ th | .settle1 _ _ _ _ th | .again1 _ _ _ _ th | .again2 _ _ _ th | .back1 _ th | .root1 _ th | .root2 _ _ _ th | .root3 _ _ _ th | .root4 _ _ th | .complete1 _ th
  | .help1 _ th | .help2 _ _ _ th | .help3 _ _ _ th | .help4 _ _ th => th.how = .ref ∧ th.wt
  | .sroot _ _ _ _ ag => ag.how = .bool ∧ ag.wt
  | .decide1 _ th | .decide2 th => th.how = .thunk ∧ th.wt
  | .repl1 _ _ _ th | .repl2 _ _ _ th | .repl3 _ _ th | .repl4 _ th => th.how = .bool ∧ th.wt
  | .part1 _ th | .part2 _ _ th | .part3 _ _ _ th => th.how = .ref2
  | _ => True

def Code.wt : Code → Prop
  | .done _ => True
  | .load _ k => k.how = .ref ∧ k.wt
  | .cas _ _ _ k => k.how = .bool ∧ k.wt

theorem apply2_wt {σ : Type} (O : Ops σ) (k : K) (x y : Int) (s : σ) : (apply2 O k x y s).1.wt := by
  unfold apply2; split <;> simp [copiedC, frozenC, Code.wt]
theorem apply_wt {σ : Type} (O : Ops σ) (k : K) : k.wt → ∀ (x : Int) (s : σ), (apply O k x s).1.wt := by
  induction k <;> intro hk x s <;> simp only [apply, readC, settleC, backC, decideC, rootC, completeC, helpC, rdecideC, replaceC, clearC, partedC, begunC, copiedC, frozenC] <;> (repeat' split) <;>
    first
    | (simp only [Code.wt, K.wt, K.how] at hk ⊢; simp_all; done)
    | (rename_i ih _; exact ih hk.2 _ _)
    | (rename_i ih _ _; exact ih hk.2 _ _)
    | (rename_i ih; exact ih hk.2 _ _)
    | (rename_i ih _ _ _; exact ih hk.2 _ _)
    | exact apply2_wt O _ _ _ _
    | trivial
end Go.Ct
