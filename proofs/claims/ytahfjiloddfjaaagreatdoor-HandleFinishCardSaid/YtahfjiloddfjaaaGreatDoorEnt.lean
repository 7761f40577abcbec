/- A call of a closure enters its body. -/
import Derived.Test.YtahfjiloddfjaaaGreatDoorRun
namespace Go.Proofs.YtahfjiloddfjaaaGreatDoor
open Go.RowKit

theorem ent_read1 : Ent 92 := Go.Proofs.enters_of Tryz.func92 (by kernel_rfl) rfl
theorem ent_settle1 : Ent 117 := Go.Proofs.enters_of Tryz.func117 (by kernel_rfl) rfl
theorem ent_again1 : Ent 120 := Go.Proofs.enters_of Tryz.func120 (by kernel_rfl) rfl
theorem ent_again2 : Ent 121 := Go.Proofs.enters_of Tryz.func121 (by kernel_rfl) rfl
theorem ent_sroot : Ent 124 := Go.Proofs.enters_of Tryz.func124 (by kernel_rfl) rfl
theorem ent_back1 : Ent 149 := Go.Proofs.enters_of Tryz.func149 (by kernel_rfl) rfl
theorem ent_root1 : Ent 151 := Go.Proofs.enters_of Tryz.func151 (by kernel_rfl) rfl
theorem ent_root2 : Ent 152 := Go.Proofs.enters_of Tryz.func152 (by kernel_rfl) rfl
theorem ent_root3 : Ent 153 := Go.Proofs.enters_of Tryz.func153 (by kernel_rfl) rfl
theorem ent_root4 : Ent 154 := Go.Proofs.enters_of Tryz.func154 (by kernel_rfl) rfl
theorem ent_complete1 : Ent 109 := Go.Proofs.enters_of Tryz.func109 (by kernel_rfl) rfl
theorem ent_help1 : Ent 79 := Go.Proofs.enters_of Tryz.func79 (by kernel_rfl) rfl
theorem ent_help2 : Ent 80 := Go.Proofs.enters_of Tryz.func80 (by kernel_rfl) rfl
theorem ent_help3 : Ent 83 := Go.Proofs.enters_of Tryz.func83 (by kernel_rfl) rfl
theorem ent_help4 : Ent 84 := Go.Proofs.enters_of Tryz.func84 (by kernel_rfl) rfl
theorem ent_decide1 : Ent 110 := Go.Proofs.enters_of Tryz.func110 (by kernel_rfl) rfl
theorem ent_decide2 : Ent 111 := Go.Proofs.enters_of Tryz.func111 (by kernel_rfl) rfl
theorem ent_repl1 : Ent 126 := Go.Proofs.enters_of Tryz.func126 (by kernel_rfl) rfl
theorem ent_repl2 : Ent 127 := Go.Proofs.enters_of Tryz.func127 (by kernel_rfl) rfl
theorem ent_repl3 : Ent 128 := Go.Proofs.enters_of Tryz.func128 (by kernel_rfl) rfl
theorem ent_repl4 : Ent 129 := Go.Proofs.enters_of Tryz.func129 (by kernel_rfl) rfl
theorem ent_clr0 : Ent 65 := Go.Proofs.enters_of Tryz.func65 (by kernel_rfl) rfl
theorem ent_clr1 : Ent 98 := Go.Proofs.enters_of Tryz.func98 (by kernel_rfl) rfl
theorem ent_clr2 : Ent 99 := Go.Proofs.enters_of Tryz.func99 (by kernel_rfl) rfl
theorem ent_clr3 : Ent 100 := Go.Proofs.enters_of Tryz.func100 (by kernel_rfl) rfl
theorem ent_snap0 : Ent 53 := Go.Proofs.enters_of Tryz.func53 (by kernel_rfl) rfl
theorem ent_snapR1 : Ent 55 := Go.Proofs.enters_of Tryz.func55 (by kernel_rfl) rfl
theorem ent_snapR2 : Ent 57 := Go.Proofs.enters_of Tryz.func57 (by kernel_rfl) rfl
theorem ent_snapP : Ent 60 := Go.Proofs.enters_of Tryz.func60 (by kernel_rfl) rfl
theorem ent_frz0 : Ent 61 := Go.Proofs.enters_of Tryz.func61 (by kernel_rfl) rfl
theorem ent_frzR1 : Ent 62 := Go.Proofs.enters_of Tryz.func62 (by kernel_rfl) rfl
theorem ent_frzP : Ent 64 := Go.Proofs.enters_of Tryz.func64 (by kernel_rfl) rfl
theorem ent_part1 : Ent 94 := Go.Proofs.enters_of Tryz.func94 (by kernel_rfl) rfl
theorem ent_part2 : Ent 95 := Go.Proofs.enters_of Tryz.func95 (by kernel_rfl) rfl
theorem ent_part3 : Ent 97 := Go.Proofs.enters_of Tryz.func97 (by kernel_rfl) rfl
theorem ent_fin : Ent 26 := Go.Proofs.enters_of Tryz.func26 (by kernel_rfl) rfl
theorem KRep.enters {sv : Value} {N : Nat → Prop} {w : World} : ∀ {k : Ct.K} {n : FuncId} {caps : Array Value}, KRep sv N w (.func (.func n) #[] caps) k → Ent n
  | .read1 _ _ _, n, _, ⟨_, _, _, e, _⟩ => by injection e with e1 _ _; injection e1 with e1; subst e1; exact ent_read1
  | .settle1 _ _ _ _ _, n, _, ⟨_, _, _, _, _, e, _⟩ => by injection e with e1 _ _; injection e1 with e1; subst e1; exact ent_settle1
  | .again1 _ _ _ _ _, n, _, ⟨_, _, _, _, _, e, _⟩ => by injection e with e1 _ _; injection e1 with e1; subst e1; exact ent_again1
  | .again2 _ _ _ _, n, _, ⟨_, _, _, _, e, _⟩ => by injection e with e1 _ _; injection e1 with e1; subst e1; exact ent_again2
  | .sroot _ _ _ _ _, n, _, ⟨_, _, _, _, _, e, _⟩ => by injection e with e1 _ _; injection e1 with e1; subst e1; exact ent_sroot
  | .back1 _ _, n, _, ⟨_, _, e, _⟩ => by injection e with e1 _ _; injection e1 with e1; subst e1; exact ent_back1
  | .root1 _ _, n, _, ⟨_, _, e, _⟩ => by injection e with e1 _ _; injection e1 with e1; subst e1; exact ent_root1
  | .root2 _ _ _ _, n, _, ⟨_, _, _, _, e, _⟩ => by injection e with e1 _ _; injection e1 with e1; subst e1; exact ent_root2
  | .root3 _ _ _ _, n, _, ⟨_, _, _, _, e, _⟩ => by injection e with e1 _ _; injection e1 with e1; subst e1; exact ent_root3
  | .root4 _ _ _, n, _, ⟨_, _, _, e, _⟩ => by injection e with e1 _ _; injection e1 with e1; subst e1; exact ent_root4
  | .complete1 _ _, n, _, ⟨_, _, e, _⟩ => by injection e with e1 _ _; injection e1 with e1; subst e1; exact ent_complete1
  | .help1 _ _, n, _, ⟨_, _, e, _⟩ => by injection e with e1 _ _; injection e1 with e1; subst e1; exact ent_help1
  | .help2 _ _ _ _, n, _, ⟨_, _, _, _, e, _⟩ => by injection e with e1 _ _; injection e1 with e1; subst e1; exact ent_help2
  | .help3 _ _ _ _, n, _, ⟨_, _, _, _, e, _⟩ => by injection e with e1 _ _; injection e1 with e1; subst e1; exact ent_help3
  | .help4 _ _ _, n, _, ⟨_, _, _, e, _⟩ => by injection e with e1 _ _; injection e1 with e1; subst e1; exact ent_help4
  | .decide1 _ _, n, _, ⟨_, _, e, _⟩ => by injection e with e1 _ _; injection e1 with e1; subst e1; exact ent_decide1
  | .decide2 _, n, _, ⟨_, e, _⟩ => by injection e with e1 _ _; injection e1 with e1; subst e1; exact ent_decide2
  | .repl1 _ _ _ _, n, _, ⟨_, _, _, _, e, _⟩ => by injection e with e1 _ _; injection e1 with e1; subst e1; exact ent_repl1
  | .repl2 _ _ _ _, n, _, ⟨_, _, _, _, e, _⟩ => by injection e with e1 _ _; injection e1 with e1; subst e1; exact ent_repl2
  | .repl3 _ _ _, n, _, ⟨_, _, _, e, _⟩ => by injection e with e1 _ _; injection e1 with e1; subst e1; exact ent_repl3
  | .repl4 _ _, n, _, ⟨_, _, e, _⟩ => by injection e with e1 _ _; injection e1 with e1; subst e1; exact ent_repl4
  | .clr0 _, n, _, ⟨_, e, _⟩ => by injection e with e1 _ _; injection e1 with e1; subst e1; exact ent_clr0
  | .clr1 _, n, _, ⟨_, e, _⟩ => by injection e with e1 _ _; injection e1 with e1; subst e1; exact ent_clr1
  | .clr2 _ _, n, _, ⟨_, _, e, _⟩ => by injection e with e1 _ _; injection e1 with e1; subst e1; exact ent_clr2
  | .clr3 _, n, _, ⟨_, e, _⟩ => by injection e with e1 _ _; injection e1 with e1; subst e1; exact ent_clr3
  | .snap0 _, n, _, ⟨_, _, _, e, _⟩ => by injection e with e1 _ _; injection e1 with e1; subst e1; exact ent_snap0
  | .snapR1 _, n, _, ⟨_, _, e, _⟩ => by injection e with e1 _ _; injection e1 with e1; subst e1; exact ent_snapR1
  | .snapR2 , n, _, ⟨_, e, _⟩ => by injection e with e1 _ _; injection e1 with e1; subst e1; exact ent_snapR2
  | .snapP , n, _, ⟨_, e, _⟩ => by injection e with e1 _ _; injection e1 with e1; subst e1; exact ent_snapP
  | .frz0 _, n, _, ⟨_, _, _, e, _⟩ => by injection e with e1 _ _; injection e1 with e1; subst e1; exact ent_frz0
  | .frzR1 , n, _, ⟨_, e, _⟩ => by injection e with e1 _ _; injection e1 with e1; subst e1; exact ent_frzR1
  | .frzP , n, _, ⟨_, e, _⟩ => by injection e with e1 _ _; injection e1 with e1; subst e1; exact ent_frzP
  | .part1 _ _, n, _, ⟨_, _, e, _⟩ => by injection e with e1 _ _; injection e1 with e1; subst e1; exact ent_part1
  | .part2 _ _ _, n, _, ⟨_, _, _, e, _⟩ => by injection e with e1 _ _; injection e1 with e1; subst e1; exact ent_part2
  | .part3 _ _ _ _, n, _, ⟨_, _, _, _, e, _⟩ => by injection e with e1 _ _; injection e1 with e1; subst e1; exact ent_part3
  | .fin _, n, _, ⟨_, e, _⟩ => by injection e with e1 _ _; injection e1 with e1; subst e1; exact ent_fin

theorem RetCode.eq {g : Ghost} {w : World} {c c' : Ct.Code × Ct.St} {e : Ending} {w' : World} (h : c = c') (hr : RetCode g w c' e w') : RetCode g w c e w' := h ▸ hr
end Go.Proofs.YtahfjiloddfjaaaGreatDoor