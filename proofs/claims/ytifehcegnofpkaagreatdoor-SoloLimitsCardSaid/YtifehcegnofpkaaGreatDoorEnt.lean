/- A call of a closure enters its body. -/
import Derived.Test.YtifehcegnofpkaaGreatDoorRun
namespace Go.Proofs.YtifehcegnofpkaaGreatDoor
open Go.RowKit

theorem ent_read1 : Ent 106 := Go.Proofs.enters_of Tryz.func106 (by kernel_rfl) rfl
theorem ent_settle1 : Ent 131 := Go.Proofs.enters_of Tryz.func131 (by kernel_rfl) rfl
theorem ent_again1 : Ent 134 := Go.Proofs.enters_of Tryz.func134 (by kernel_rfl) rfl
theorem ent_again2 : Ent 135 := Go.Proofs.enters_of Tryz.func135 (by kernel_rfl) rfl
theorem ent_sroot : Ent 138 := Go.Proofs.enters_of Tryz.func138 (by kernel_rfl) rfl
theorem ent_back1 : Ent 163 := Go.Proofs.enters_of Tryz.func163 (by kernel_rfl) rfl
theorem ent_root1 : Ent 165 := Go.Proofs.enters_of Tryz.func165 (by kernel_rfl) rfl
theorem ent_root2 : Ent 166 := Go.Proofs.enters_of Tryz.func166 (by kernel_rfl) rfl
theorem ent_root3 : Ent 167 := Go.Proofs.enters_of Tryz.func167 (by kernel_rfl) rfl
theorem ent_root4 : Ent 168 := Go.Proofs.enters_of Tryz.func168 (by kernel_rfl) rfl
theorem ent_complete1 : Ent 123 := Go.Proofs.enters_of Tryz.func123 (by kernel_rfl) rfl
theorem ent_help1 : Ent 93 := Go.Proofs.enters_of Tryz.func93 (by kernel_rfl) rfl
theorem ent_help2 : Ent 94 := Go.Proofs.enters_of Tryz.func94 (by kernel_rfl) rfl
theorem ent_help3 : Ent 97 := Go.Proofs.enters_of Tryz.func97 (by kernel_rfl) rfl
theorem ent_help4 : Ent 98 := Go.Proofs.enters_of Tryz.func98 (by kernel_rfl) rfl
theorem ent_decide1 : Ent 124 := Go.Proofs.enters_of Tryz.func124 (by kernel_rfl) rfl
theorem ent_decide2 : Ent 125 := Go.Proofs.enters_of Tryz.func125 (by kernel_rfl) rfl
theorem ent_repl1 : Ent 140 := Go.Proofs.enters_of Tryz.func140 (by kernel_rfl) rfl
theorem ent_repl2 : Ent 141 := Go.Proofs.enters_of Tryz.func141 (by kernel_rfl) rfl
theorem ent_repl3 : Ent 142 := Go.Proofs.enters_of Tryz.func142 (by kernel_rfl) rfl
theorem ent_repl4 : Ent 143 := Go.Proofs.enters_of Tryz.func143 (by kernel_rfl) rfl
theorem ent_clr0 : Ent 80 := Go.Proofs.enters_of Tryz.func80 (by kernel_rfl) rfl
theorem ent_clr1 : Ent 112 := Go.Proofs.enters_of Tryz.func112 (by kernel_rfl) rfl
theorem ent_clr2 : Ent 113 := Go.Proofs.enters_of Tryz.func113 (by kernel_rfl) rfl
theorem ent_clr3 : Ent 114 := Go.Proofs.enters_of Tryz.func114 (by kernel_rfl) rfl
theorem ent_snap0 : Ent 68 := Go.Proofs.enters_of Tryz.func68 (by kernel_rfl) rfl
theorem ent_snapR1 : Ent 70 := Go.Proofs.enters_of Tryz.func70 (by kernel_rfl) rfl
theorem ent_snapR2 : Ent 72 := Go.Proofs.enters_of Tryz.func72 (by kernel_rfl) rfl
theorem ent_snapP : Ent 75 := Go.Proofs.enters_of Tryz.func75 (by kernel_rfl) rfl
theorem ent_frz0 : Ent 76 := Go.Proofs.enters_of Tryz.func76 (by kernel_rfl) rfl
theorem ent_frzR1 : Ent 77 := Go.Proofs.enters_of Tryz.func77 (by kernel_rfl) rfl
theorem ent_frzP : Ent 79 := Go.Proofs.enters_of Tryz.func79 (by kernel_rfl) rfl
theorem ent_part1 : Ent 108 := Go.Proofs.enters_of Tryz.func108 (by kernel_rfl) rfl
theorem ent_part2 : Ent 109 := Go.Proofs.enters_of Tryz.func109 (by kernel_rfl) rfl
theorem ent_part3 : Ent 111 := Go.Proofs.enters_of Tryz.func111 (by kernel_rfl) rfl
theorem ent_fin : Ent 40 := Go.Proofs.enters_of Tryz.func40 (by kernel_rfl) rfl
theorem KRep.enters {sv : Value} {N : Nat → Prop} {w : World} : ∀ {k : Ct.K} {n : FuncId} {caps : Array Value}, KRep sv N w (.func (.func n) #[] caps) k → Ent n
  | .read1 _ _ _, n, _, ⟨_, _, _, e, _⟩ => by injection e with e1 _ _; injection e1 with e1; subst e1; exact ent_read1
  | .settle1 _ _ _ _ _, n, _, ⟨_, _, _, _, _, e, _⟩ => by injection e with e1 _ _; injection e1 with e1; subst e1; exact ent_settle1
  | .again1 _ _ _ _ _, n, _, ⟨_, _, _, _, _, e, _⟩ => by injection e with e1 _ _; injection e1 with e1; subst e1; exact ent_again1
  | .again2 _ _ _ _, n, _, ⟨_, _, _, _, e, _⟩ => by injection e with e1 _ _; injection e1 with e1; subst e1; exact ent_again2
  | .sroot _ _ _ _ _, n, _, ⟨_, _, _, _, _, e, _⟩ => by injection e with e1 _ _; injection e1 with e1; subst e1; exact ent_sroot
  | .back1 _ _, n, _, ⟨_, _, e, _⟩ => by injection e with e1 _ _; injection e1 with e1; subst e1; exact ent_back1
  | .root1 _ _, n, _, ⟨_, _, e, _⟩ => by injection e with e1 _ _; injection e1 with e1; subst e1; exact ent_root1
  | .root2 _ _ _ _, n, _, ⟨_, _, _, _, e, _⟩ => by injection e with e1 _ _; injection e1 with e1; subst e1; exact ent_root2
  | .root3 _ _ _ _, n, _, ⟨_, _, _, _, e, _⟩ => by injection e with e1 _ _; injection e1 with e1; subst e1; exact ent_root3
  | .root4 _ _ _, n, _, ⟨_, _, _, e, _⟩ => by injection e with e1 _ _; injection e1 with e1; subst e1; exact ent_root4
  | .complete1 _ _, n, _, ⟨_, _, e, _⟩ => by injection e with e1 _ _; injection e1 with e1; subst e1; exact ent_complete1
  | .help1 _ _, n, _, ⟨_, _, e, _⟩ => by injection e with e1 _ _; injection e1 with e1; subst e1; exact ent_help1
  | .help2 _ _ _ _, n, _, ⟨_, _, _, _, e, _⟩ => by injection e with e1 _ _; injection e1 with e1; subst e1; exact ent_help2
  | .help3 _ _ _ _, n, _, ⟨_, _, _, _, e, _⟩ => by injection e with e1 _ _; injection e1 with e1; subst e1; exact ent_help3
  | .help4 _ _ _, n, _, ⟨_, _, _, e, _⟩ => by injection e with e1 _ _; injection e1 with e1; subst e1; exact ent_help4
  | .decide1 _ _, n, _, ⟨_, _, e, _⟩ => by injection e with e1 _ _; injection e1 with e1; subst e1; exact ent_decide1
  | .decide2 _, n, _, ⟨_, e, _⟩ => by injection e with e1 _ _; injection e1 with e1; subst e1; exact ent_decide2
  | .repl1 _ _ _ _, n, _, ⟨_, _, _, _, e, _⟩ => by injection e with e1 _ _; injection e1 with e1; subst e1; exact ent_repl1
  | .repl2 _ _ _ _, n, _, ⟨_, _, _, _, e, _⟩ => by injection e with e1 _ _; injection e1 with e1; subst e1; exact ent_repl2
  | .repl3 _ _ _, n, _, ⟨_, _, _, e, _⟩ => by injection e with e1 _ _; injection e1 with e1; subst e1; exact ent_repl3
  | .repl4 _ _, n, _, ⟨_, _, e, _⟩ => by injection e with e1 _ _; injection e1 with e1; subst e1; exact ent_repl4
  | .clr0 _, n, _, ⟨_, e, _⟩ => by injection e with e1 _ _; injection e1 with e1; subst e1; exact ent_clr0
  | .clr1 _, n, _, ⟨_, e, _⟩ => by injection e with e1 _ _; injection e1 with e1; subst e1; exact ent_clr1
  | .clr2 _ _, n, _, ⟨_, _, e, _⟩ => by injection e with e1 _ _; injection e1 with e1; subst e1; exact ent_clr2
  | .clr3 _, n, _, ⟨_, e, _⟩ => by injection e with e1 _ _; injection e1 with e1; subst e1; exact ent_clr3
  | .snap0 _, n, _, ⟨_, _, _, e, _⟩ => by injection e with e1 _ _; injection e1 with e1; subst e1; exact ent_snap0
  | .snapR1 _, n, _, ⟨_, _, e, _⟩ => by injection e with e1 _ _; injection e1 with e1; subst e1; exact ent_snapR1
  | .snapR2 , n, _, ⟨_, e, _⟩ => by injection e with e1 _ _; injection e1 with e1; subst e1; exact ent_snapR2
  | .snapP , n, _, ⟨_, e, _⟩ => by injection e with e1 _ _; injection e1 with e1; subst e1; exact ent_snapP
  | .frz0 _, n, _, ⟨_, _, _, e, _⟩ => by injection e with e1 _ _; injection e1 with e1; subst e1; exact ent_frz0
  | .frzR1 , n, _, ⟨_, e, _⟩ => by injection e with e1 _ _; injection e1 with e1; subst e1; exact ent_frzR1
  | .frzP , n, _, ⟨_, e, _⟩ => by injection e with e1 _ _; injection e1 with e1; subst e1; exact ent_frzP
  | .part1 _ _, n, _, ⟨_, _, e, _⟩ => by injection e with e1 _ _; injection e1 with e1; subst e1; exact ent_part1
  | .part2 _ _ _, n, _, ⟨_, _, _, e, _⟩ => by injection e with e1 _ _; injection e1 with e1; subst e1; exact ent_part2
  | .part3 _ _ _ _, n, _, ⟨_, _, _, _, e, _⟩ => by injection e with e1 _ _; injection e1 with e1; subst e1; exact ent_part3
  | .fin _, n, _, ⟨_, e, _⟩ => by injection e with e1 _ _; injection e1 with e1; subst e1; exact ent_fin

theorem RetCode.eq {g : Ghost} {w : World} {c c' : Ct.Code × Ct.St} {e : Ending} {w' : World} (h : c = c') (hr : RetCode g w c' e w') : RetCode g w c e w' := h ▸ hr
end Go.Proofs.YtifehcegnofpkaaGreatDoor