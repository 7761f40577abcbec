/- Parts of a proof: Ent, Begun. -/
import Derived.Test.YtjlgchdekhmnnaaGreatDoorM08
import Derived.Deep.RegionWith
section
namespace Go.Proofs.YtjlgchdekhmnnaaGreatDoor
open Go.RowKit
set_option linter.unusedVariables false
variable {O : Nat → Prop}
theorem ent_read1 : Ent 152 := Go.Proofs.enters_of Tryz.func152 (by kernel_rfl) rfl
theorem ent_settle1 : Ent 179 := Go.Proofs.enters_of Tryz.func179 (by kernel_rfl) rfl
theorem ent_again1 : Ent 182 := Go.Proofs.enters_of Tryz.func182 (by kernel_rfl) rfl
theorem ent_again2 : Ent 183 := Go.Proofs.enters_of Tryz.func183 (by kernel_rfl) rfl
theorem ent_sroot : Ent 186 := Go.Proofs.enters_of Tryz.func186 (by kernel_rfl) rfl
theorem ent_back1 : Ent 211 := Go.Proofs.enters_of Tryz.func211 (by kernel_rfl) rfl
theorem ent_root1 : Ent 213 := Go.Proofs.enters_of Tryz.func213 (by kernel_rfl) rfl
theorem ent_root2 : Ent 214 := Go.Proofs.enters_of Tryz.func214 (by kernel_rfl) rfl
theorem ent_root3 : Ent 215 := Go.Proofs.enters_of Tryz.func215 (by kernel_rfl) rfl
theorem ent_root4 : Ent 216 := Go.Proofs.enters_of Tryz.func216 (by kernel_rfl) rfl
theorem ent_complete1 : Ent 171 := Go.Proofs.enters_of Tryz.func171 (by kernel_rfl) rfl
theorem ent_help1 : Ent 139 := Go.Proofs.enters_of Tryz.func139 (by kernel_rfl) rfl
theorem ent_help2 : Ent 140 := Go.Proofs.enters_of Tryz.func140 (by kernel_rfl) rfl
theorem ent_help3 : Ent 143 := Go.Proofs.enters_of Tryz.func143 (by kernel_rfl) rfl
theorem ent_help4 : Ent 144 := Go.Proofs.enters_of Tryz.func144 (by kernel_rfl) rfl
theorem ent_decide1 : Ent 172 := Go.Proofs.enters_of Tryz.func172 (by kernel_rfl) rfl
theorem ent_decide2 : Ent 173 := Go.Proofs.enters_of Tryz.func173 (by kernel_rfl) rfl
theorem ent_repl1 : Ent 188 := Go.Proofs.enters_of Tryz.func188 (by kernel_rfl) rfl
theorem ent_repl2 : Ent 189 := Go.Proofs.enters_of Tryz.func189 (by kernel_rfl) rfl
theorem ent_repl3 : Ent 190 := Go.Proofs.enters_of Tryz.func190 (by kernel_rfl) rfl
theorem ent_repl4 : Ent 191 := Go.Proofs.enters_of Tryz.func191 (by kernel_rfl) rfl
theorem ent_clr0 : Ent 124 := Go.Proofs.enters_of Tryz.func124 (by kernel_rfl) rfl
theorem ent_clr1 : Ent 158 := Go.Proofs.enters_of Tryz.func158 (by kernel_rfl) rfl
theorem ent_clr2 : Ent 159 := Go.Proofs.enters_of Tryz.func159 (by kernel_rfl) rfl
theorem ent_clr3 : Ent 160 := Go.Proofs.enters_of Tryz.func160 (by kernel_rfl) rfl
theorem ent_snap0 : Ent 112 := Go.Proofs.enters_of Tryz.func112 (by kernel_rfl) rfl
theorem ent_snapR1 : Ent 114 := Go.Proofs.enters_of Tryz.func114 (by kernel_rfl) rfl
theorem ent_snapR2 : Ent 116 := Go.Proofs.enters_of Tryz.func116 (by kernel_rfl) rfl
theorem ent_snapP : Ent 119 := Go.Proofs.enters_of Tryz.func119 (by kernel_rfl) rfl
theorem ent_frz0 : Ent 120 := Go.Proofs.enters_of Tryz.func120 (by kernel_rfl) rfl
theorem ent_frzR1 : Ent 121 := Go.Proofs.enters_of Tryz.func121 (by kernel_rfl) rfl
theorem ent_frzP : Ent 123 := Go.Proofs.enters_of Tryz.func123 (by kernel_rfl) rfl
theorem ent_part1 : Ent 154 := Go.Proofs.enters_of Tryz.func154 (by kernel_rfl) rfl
theorem ent_part2 : Ent 155 := Go.Proofs.enters_of Tryz.func155 (by kernel_rfl) rfl
theorem ent_part3 : Ent 157 := Go.Proofs.enters_of Tryz.func157 (by kernel_rfl) rfl
theorem ent_fin : Ent 77 := Go.Proofs.enters_of Tryz.func77 (by kernel_rfl) rfl
theorem ent_swap1 : Ent 253 := Go.Proofs.enters_of Tryz.func253 (by kernel_rfl) rfl
theorem ent_swap2 : Ent 254 := Go.Proofs.enters_of Tryz.func254 (by kernel_rfl) rfl
theorem ent_fnd0 : Ent 108 := Go.Proofs.enters_of Tryz.func108 (by kernel_rfl) rfl
theorem ent_fnd1 : Ent 110 := Go.Proofs.enters_of Tryz.func110 (by kernel_rfl) rfl
theorem ent_fnd2 : Ent 145 := Go.Proofs.enters_of Tryz.func145 (by kernel_rfl) rfl
theorem ent_ren1 : Ent 261 := Go.Proofs.enters_of Tryz.func261 (by kernel_rfl) rfl
theorem ent_ren2 : Ent 275 := Go.Proofs.enters_of Tryz.func275 (by kernel_rfl) rfl
theorem ent_cln1 : Ent 222 := Go.Proofs.enters_of Tryz.func222 (by kernel_rfl) rfl
theorem ent_cln2 : Ent 223 := Go.Proofs.enters_of Tryz.func223 (by kernel_rfl) rfl
theorem ent_put0 : Ent 104 := Go.Proofs.enters_of Tryz.func104 (by kernel_rfl) rfl
theorem ent_putB : Ent 137 := Go.Proofs.enters_of Tryz.func137 (by kernel_rfl) rfl
theorem ent_putV : Ent 168 := Go.Proofs.enters_of Tryz.func168 (by kernel_rfl) rfl
theorem ent_putA : Ent 201 := Go.Proofs.enters_of Tryz.func201 (by kernel_rfl) rfl
theorem ent_putR : Ent 235 := Go.Proofs.enters_of Tryz.func235 (by kernel_rfl) rfl
theorem ent_putS : Ent 258 := Go.Proofs.enters_of Tryz.func258 (by kernel_rfl) rfl
theorem ent_drp0 : Ent 106 := Go.Proofs.enters_of Tryz.func106 (by kernel_rfl) rfl
theorem ent_drpB : Ent 138 := Go.Proofs.enters_of Tryz.func138 (by kernel_rfl) rfl
theorem ent_drpV : Ent 204 := Go.Proofs.enters_of Tryz.func204 (by kernel_rfl) rfl
theorem ent_drpA : Ent 237 := Go.Proofs.enters_of Tryz.func237 (by kernel_rfl) rfl
theorem ent_drpR : Ent 267 := Go.Proofs.enters_of Tryz.func267 (by kernel_rfl) rfl
theorem ent_drpS : Ent 277 := Go.Proofs.enters_of Tryz.func277 (by kernel_rfl) rfl
theorem ent_drpU : Ent 281 := Go.Proofs.enters_of Tryz.func281 (by kernel_rfl) rfl
theorem ent_drpX : Ent 282 := Go.Proofs.enters_of Tryz.func282 (by kernel_rfl) rfl
theorem KRep.enters {sv : Value} {N : Nat → Prop} {w : World} : ∀ {k : Ct.K} {n : FuncId} {ff caps : Array Value}, KRep sv N O w (.func (.func n) ff caps) k → Ent n
  | .read1 _ _ _, n, _, _, ⟨_, _, _, e, _⟩ => by injection e with e1 _ _; injection e1 with e1; subst e1; exact ent_read1
  | .settle1 _ _ _ _ _, n, _, _, ⟨_, _, _, _, _, e, _⟩ => by injection e with e1 _ _; injection e1 with e1; subst e1; exact ent_settle1
  | .again1 _ _ _ _ _, n, _, _, ⟨_, _, _, _, _, e, _⟩ => by injection e with e1 _ _; injection e1 with e1; subst e1; exact ent_again1
  | .again2 _ _ _ _, n, _, _, ⟨_, _, _, _, e, _⟩ => by injection e with e1 _ _; injection e1 with e1; subst e1; exact ent_again2
  | .sroot _ _ _ _ _, n, _, _, ⟨_, _, _, _, _, e, _⟩ => by injection e with e1 _ _; injection e1 with e1; subst e1; exact ent_sroot
  | .back1 _ _, n, _, _, ⟨_, _, e, _⟩ => by injection e with e1 _ _; injection e1 with e1; subst e1; exact ent_back1
  | .root1 _ _, n, _, _, ⟨_, _, e, _⟩ => by injection e with e1 _ _; injection e1 with e1; subst e1; exact ent_root1
  | .root2 _ _ _ _, n, _, _, ⟨_, _, _, _, e, _⟩ => by injection e with e1 _ _; injection e1 with e1; subst e1; exact ent_root2
  | .root3 _ _ _ _, n, _, _, ⟨_, _, _, _, e, _⟩ => by injection e with e1 _ _; injection e1 with e1; subst e1; exact ent_root3
  | .root4 _ _ _, n, _, _, ⟨_, _, _, e, _⟩ => by injection e with e1 _ _; injection e1 with e1; subst e1; exact ent_root4
  | .complete1 _ _, n, _, _, ⟨_, _, e, _⟩ => by injection e with e1 _ _; injection e1 with e1; subst e1; exact ent_complete1
  | .help1 _ _, n, _, _, ⟨_, _, e, _⟩ => by injection e with e1 _ _; injection e1 with e1; subst e1; exact ent_help1
  | .help2 _ _ _ _, n, _, _, ⟨_, _, _, _, e, _⟩ => by injection e with e1 _ _; injection e1 with e1; subst e1; exact ent_help2
  | .help3 _ _ _ _, n, _, _, ⟨_, _, _, _, e, _⟩ => by injection e with e1 _ _; injection e1 with e1; subst e1; exact ent_help3
  | .help4 _ _ _, n, _, _, ⟨_, _, _, e, _⟩ => by injection e with e1 _ _; injection e1 with e1; subst e1; exact ent_help4
  | .decide1 _ _, n, _, _, ⟨_, _, e, _⟩ => by injection e with e1 _ _; injection e1 with e1; subst e1; exact ent_decide1
  | .decide2 _, n, _, _, ⟨_, e, _⟩ => by injection e with e1 _ _; injection e1 with e1; subst e1; exact ent_decide2
  | .repl1 _ _ _ _, n, _, _, ⟨_, _, _, _, e, _⟩ => by injection e with e1 _ _; injection e1 with e1; subst e1; exact ent_repl1
  | .repl2 _ _ _ _, n, _, _, ⟨_, _, _, _, e, _⟩ => by injection e with e1 _ _; injection e1 with e1; subst e1; exact ent_repl2
  | .repl3 _ _ _, n, _, _, ⟨_, _, _, e, _⟩ => by injection e with e1 _ _; injection e1 with e1; subst e1; exact ent_repl3
  | .repl4 _ _, n, _, _, ⟨_, _, e, _⟩ => by injection e with e1 _ _; injection e1 with e1; subst e1; exact ent_repl4
  | .clr0 _, n, _, _, ⟨_, e, _⟩ => by injection e with e1 _ _; injection e1 with e1; subst e1; exact ent_clr0
  | .clr1 _, n, _, _, ⟨_, e, _⟩ => by injection e with e1 _ _; injection e1 with e1; subst e1; exact ent_clr1
  | .clr2 _ _, n, _, _, ⟨_, _, e, _⟩ => by injection e with e1 _ _; injection e1 with e1; subst e1; exact ent_clr2
  | .clr3 _, n, _, _, ⟨_, e, _⟩ => by injection e with e1 _ _; injection e1 with e1; subst e1; exact ent_clr3
  | .snap0 _, n, _, _, ⟨_, _, _, e, _⟩ => by injection e with e1 _ _; injection e1 with e1; subst e1; exact ent_snap0
  | .snapR1 _, n, _, _, ⟨_, _, e, _⟩ => by injection e with e1 _ _; injection e1 with e1; subst e1; exact ent_snapR1
  | .snapR2 , n, _, _, ⟨_, e, _⟩ => by injection e with e1 _ _; injection e1 with e1; subst e1; exact ent_snapR2
  | .snapP , n, _, _, ⟨_, e, _⟩ => by injection e with e1 _ _; injection e1 with e1; subst e1; exact ent_snapP
  | .frz0 _, n, _, _, ⟨_, _, _, e, _⟩ => by injection e with e1 _ _; injection e1 with e1; subst e1; exact ent_frz0
  | .frzR1 , n, _, _, ⟨_, e, _⟩ => by injection e with e1 _ _; injection e1 with e1; subst e1; exact ent_frzR1
  | .frzP , n, _, _, ⟨_, e, _⟩ => by injection e with e1 _ _; injection e1 with e1; subst e1; exact ent_frzP
  | .part1 _ _, n, _, _, ⟨_, _, e, _⟩ => by injection e with e1 _ _; injection e1 with e1; subst e1; exact ent_part1
  | .part2 _ _ _, n, _, _, ⟨_, _, _, e, _⟩ => by injection e with e1 _ _; injection e1 with e1; subst e1; exact ent_part2
  | .part3 _ _ _ _, n, _, _, ⟨_, _, _, _, e, _⟩ => by injection e with e1 _ _; injection e1 with e1; subst e1; exact ent_part3
  | .fin _, n, _, _, ⟨_, e, _⟩ => by injection e with e1 _ _; injection e1 with e1; subst e1; exact ent_fin
  | .swap1 _ _ _ _, n, _, _, ⟨_, _, _, _, e, _⟩ => by injection e with e1 _ _; injection e1 with e1; subst e1; exact ent_swap1
  | .swap2 _ _, n, _, _, ⟨_, _, e, _⟩ => by injection e with e1 _ _; injection e1 with e1; subst e1; exact ent_swap2
  | .fnd0 _ _, n, _, _, ⟨_, _, e, _⟩ => by injection e with e1 _ _; injection e1 with e1; subst e1; exact ent_fnd0
  | .fnd1 _ _, n, _, _, ⟨_, e, _⟩ => by injection e with e1 _ _; injection e1 with e1; subst e1; exact ent_fnd1
  | .fnd2 _ _ _, n, _, _, ⟨_, _, e, _⟩ => by injection e with e1 _ _; injection e1 with e1; subst e1; exact ent_fnd2
  | .ren1 _ _ _ _ _, n, _, _, ⟨_, _, e, _⟩ => by injection e with e1 _ _; injection e1 with e1; subst e1; exact ent_ren1
  | .ren2 _ _, n, _, _, ⟨_, _, e, _⟩ => by injection e with e1 _ _; injection e1 with e1; subst e1; exact ent_ren2
  | .cln1 _ _ _ _ _ _, n, _, _, ⟨_, _, _, _, _, _, e, _⟩ => by injection e with e1 _ _; injection e1 with e1; subst e1; exact ent_cln1
  | .cln2 _ _ _ _ _ _, n, _, _, ⟨_, _, _, _, _, _, e, _⟩ => by injection e with e1 _ _; injection e1 with e1; subst e1; exact ent_cln2
  | .put0 _ _, n, _, _, ⟨_, _, _, e, _⟩ => by injection e with e1 _ _; injection e1 with e1; subst e1; exact ent_put0
  | .putB _ _, n, _, _, ⟨_, e, _⟩ => by injection e with e1 _ _; injection e1 with e1; subst e1; exact ent_putB
  | .putV _ _, n, _, _, ⟨_, e, _⟩ => by injection e with e1 _ _; injection e1 with e1; subst e1; exact ent_putV
  | .putA _ _, n, _, _, ⟨_, e, _⟩ => by injection e with e1 _ _; injection e1 with e1; subst e1; exact ent_putA
  | .putR _ _, n, _, _, ⟨_, e, _⟩ => by injection e with e1 _ _; injection e1 with e1; subst e1; exact ent_putR
  | .putS _ _ _ _, n, _, _, ⟨_, _, _, e, _⟩ => by injection e with e1 _ _; injection e1 with e1; subst e1; exact ent_putS
  | .drp0 _ _, n, _, _, ⟨_, _, e, _⟩ => by injection e with e1 _ _; injection e1 with e1; subst e1; exact ent_drp0
  | .drpB _ _, n, _, _, ⟨_, e, _⟩ => by injection e with e1 _ _; injection e1 with e1; subst e1; exact ent_drpB
  | .drpV _ _, n, _, _, ⟨_, e, _⟩ => by injection e with e1 _ _; injection e1 with e1; subst e1; exact ent_drpV
  | .drpA _ _, n, _, _, ⟨_, e, _⟩ => by injection e with e1 _ _; injection e1 with e1; subst e1; exact ent_drpA
  | .drpR _ _, n, _, _, ⟨_, e, _⟩ => by injection e with e1 _ _; injection e1 with e1; subst e1; exact ent_drpR
  | .drpS _ _ _, n, _, _, ⟨_, _, e, _⟩ => by injection e with e1 _ _; injection e1 with e1; subst e1; exact ent_drpS
  | .drpU _ _ _ _, n, _, _, ⟨_, _, _, e, _⟩ => by injection e with e1 _ _; injection e1 with e1; subst e1; exact ent_drpU
  | .drpX _ _ _ _, n, _, _, ⟨_, _, _, e, _⟩ => by injection e with e1 _ _; injection e1 with e1; subst e1; exact ent_drpX
theorem RetCode.eq {g : Ghost} {w : World} {c c' : Ct.Code × Ct.St} {e : Ending} {w' : World} (h : c = c') (hr : RetCode O g w c' e w') : RetCode O g w c e w' := h ▸ hr
end Go.Proofs.YtjlgchdekhmnnaaGreatDoor
end
section
namespace Go.Proofs.YtjlgchdekhmnnaaGreatDoor
open Go.RowKit
set_option linter.unusedVariables false
variable {O : Nat → Prop}
theorem Does.mv {g : Ghost} {w : World} {s' : Ct.St} {v : Value} {e : Ending} {w' : World} (h : Does g w v s' e w') : ∃ vn vc N, e = .returned v ∧ ArenaAt ⟨g.a, vn, vc, N⟩ w' s' ∧ Step g w ⟨g.a, vn, vc, N⟩ w' := by
  obtain ⟨rfl, ⟨a', vn, vc, N⟩, h1, h2⟩ := h
  have hA : a' = g.a := h2.a
  subst hA
  exact ⟨vn, vc, N, rfl, h1, h2⟩
theorem below_drew {w w' : World} (h : Below w.drew.heap.size w.drew w') : Below w.heap.size w w' := ⟨h.os, h.tape, h.output, h.size, h.block⟩
theorem nil_Node (a : Addr) (w : World) : (nilAhead 419 23 (.pointer (some a)) "Node").run Tryz.prog w = .ok (some false) w := by kernel_rfl
theorem nil_Alloc (a : Addr) (w : World) : (nilAhead 419 23 (.pointer (some a)) "Alloc").run Tryz.prog w = .ok (some false) w := by kernel_rfl
theorem nil_NewCell (a : Addr) (w : World) : (nilAhead 419 23 (.pointer (some a)) "NewCell").run Tryz.prog w = .ok (some false) w := by kernel_rfl
set_option maxRecDepth 100000 in
set_option maxHeartbeats 400000 in
theorem begun_any (g : Ghost) (w : World) (s : Ct.St) (m : Int) (h : ArenaO O g w s) (hfin : Fin 300 s) :
    Calls Tryz.prog 100 #[g.sv, .int .i64 m] w (Does g w (.int .i64 (Ct.begunC Ct.stOps m s).1) (Ct.begunC Ct.stOps m s).2) := by
  have H := Lib.hid h; have FI := Lib.hid hfin
  have hmf := hmfG
  have hmG := meth_NewGen; have hmA := meth_Alloc; have hnA := nil_Alloc
  clear h hfin
  unfold Ghost.sv
  go_enter Tryz.func100, Tryz.ntmps100
  go_wp2_with fail
  refine (newGen_any g w s H.out (FI.out.Room (by decide))).mono ?_
  rintro e w1 hd
  obtain ⟨vn, vc, N, rfl, ha, hs⟩ := hd.mv
  have F1 : Hid (Fin 299 s.newGen.1) := Fin.newGen (FI.out.less (by decide)) rfl
  have A1 := Lib.hid ha; have S1 := Lib.hid hs
  have HE := Lib.hid (show Ct.begunC Ct.stOps m s = ((s.newGen.1.alloc { kind := 2, gen := s.newGen.2 } m).2, (s.newGen.1.alloc { kind := 2, gen := s.newGen.2 } m).1) from rfl)
  clear hd ha hs
  generalize s.newGen.2 = gn at HE ⊢
  generalize s.newGen.1 = s1 at HE A1 F1
  go_wp2_with fail
  go_region_with (first
    | (go_at_call 135; refine (mkInner _ _).mono ?_; rintro e w2 ⟨cs, rfl, ⟨bv, pv, rfl, hr1, hp1⟩, hb⟩; have HB := Lib.hid hb; have HR := Lib.hid hr1; have HP := Lib.hid hp1; clear hb hr1 hp1)
    | (go_at_call 306; go_loud (refine (alloc_any ⟨g.a, vn, vc, N⟩ _ s1 { kind := 2, gen := gn } bv pv m (A1.out.below (below_drew HB.out)) (F1.out.Room (by decide)) (HR.out.avoid (fun k _ hk => A1.out.nlt k hk)) (HP.out.avoid (fun k _ hk => A1.out.nlt k hk)) (Nat.zero_le _) (Nat.zero_le _)).mono ?_; rintro e w3 ⟨rfl, g3, ha3, hs3⟩; have A3 := Lib.hid ha3; have S3 := Lib.hid hs3; clear ha3 hs3)))
  all_goals
    go_wp2
    go_ret
    refine ⟨?_, g3, ?_, S1.out.trans ((Step.below (below_drew HB.out)).trans S3.out)⟩
    · rw [HE.out]; rfl
    · rw [HE.out]; exact A3.out
theorem code_world {P : Program} {c : Code} {Q : Exit → Act → World → Prop} {a : Act} {w W : World} (h : w = W) (hc : c.wp P Q a W) : c.wp P Q a w := h ▸ hc
theorem Mv.drew (g : Ghost) (w : World) : Mv O g w g w.drew := ⟨⟨fun _ => False, ⟨rfl, rfl, rfl, Nat.le_refl _, fun _ _ _ => rfl⟩, fun _ h => h.elim⟩, fun _ h => .inl h⟩
theorem Run.drew {g : Ghost} {w : World} {b : Nat} {h : Ghost} {W : World} {s : Ct.St} (R : Run O g w b h W s) : Run O g w b h W.drew s := R.below ⟨rfl, rfl, rfl, Nat.le_refl _, fun _ _ => rfl⟩
theorem Run.begun {g : Ghost} {w : World} {b : Nat} {h : Ghost} {W : World} {s : Ct.St} {n : Nat} (R : Run O g w b h W s) (hf : Fin n s) (hn : 300 ≤ n) (m : Int) :
    Calls Tryz.prog 100 #[g.sv, .int .i64 m] W (IntRes O g w b h W ((Ct.begunC Ct.stOps m s).2, (Ct.begunC Ct.stOps m s).1)) := by
  have hc := begun_any h W s m R.arena (hf.less hn)
  rw [R.sv] at hc
  exact hc.mono fun e w' hd => R.does (c := ((Ct.begunC Ct.stOps m s).2, (Ct.begunC Ct.stOps m s).1)) hd
theorem Fin.begun {n : Nat} {s s' : Ct.St} {m r : Int} (h : Fin (n + 3) s) (e : ((Ct.begunC Ct.stOps m s).2, (Ct.begunC Ct.stOps m s).1) = (s', r)) : Fin n s' := by
  injection e with e1 e2
  subst e1
  exact Fin.alloc (nd := { kind := 2, gen := s.newGen.2 }) (x := m) (s := s.newGen.1) (Fin.newGen (s := s) h rfl) (by first | exact Ct.fits_small _ _ _ _ _ _ | exact Ct.fits_empty _) rfl
end Go.Proofs.YtjlgchdekhmnnaaGreatDoor
end
