/- The walk of the statement HandleFinish. -/
import Derived.Test.YtahfjiloddfjaaaGreatDoorFin3
namespace Go.Proofs.YtahfjiloddfjaaaGreatDoor
open Go.RowKit
set_option linter.unusedVariables false

theorem bstep {B : Nat} {W w w1 : World} (h : Below B W w) (hB : W.heap.size ≤ w.heap.size) (h1 : Below w.heap.size w w1) (h0 : B ≤ W.heap.size := by first | exact Nat.le_refl _ | omega) : Below B W w1 := h.trans (h1.mono (Nat.le_trans h0 hB))
theorem Below.drewed (W : World) : Below W.heap.size W W.drew := ⟨rfl, rfl, rfl, Nat.le_refl _, fun _ _ => rfl⟩
theorem after_below {w w' : World} {b : Nat} {o : Obj} (hb : Below w.heap.size w w') (h : w.heap[b]? = some o) : w'.heap[b]? = some o := (hb.block b (Array.getElem?_eq_some_iff.1 h).1).trans h
theorem look_none {num : Int} {t : Ct.Trie} (h : 1 ≤ num) : (([(0, t)] : List (Int × Ct.Trie)).find? (fun p => p.1 == num)).map (·.2) = none := by
  have : ((0 : Int) == num) = false := beq_eq_false_iff_ne.2 (by omega)
  simp [this]
theorem look_ops {num : Int} {v : Int × Ct.Trie × Bool} : ((bput [] num v).find? (fun p => p.1 == num)).map (·.2) = some v := by simp [bput]
theorem look_again {num : Int} {v v' : Int × Ct.Trie × Bool} : ((bput (bput [] num v) num v').find? (fun p => p.1 == num)).map (·.2) = some v' := by simp [bput]
theorem look_tries {num : Int} {t t' : Ct.Trie} (h : 1 ≤ num) : ((tput [(0, t)] num t').find? (fun p => p.1 == num)).map (·.2) = some t' := by
  have : ((0 : Int) == num) = false := beq_eq_false_iff_ne.2 (by omega)
  simp [tput, this]

/-- The run of the empty trie's snapshot. -/
def b1 : Ct.Code × Ct.St := Ct.apply Ct.stOps (.snap0 a0.1) 0 a0.2
def b2 : Nat × Ct.Code × Ct.St := Ct.runC 20 b1.1 b1.2
theorem b2_1 : b2.1 = 9 := by kernel_rfl
theorem b2_2 : b2.2.1 = .done { found := true, trie := { root := 7, readOnly := false } } := by kernel_rfl
theorem b2_eq : Ct.runC 20 b1.1 b1.2 = (9, .done { found := true, trie := { root := 7, readOnly := false } }, b2.2.2) := by
  have e : Ct.runC 20 b1.1 b1.2 = b2 := rfl
  rw [e]
  exact Prod.ext b2_1 (Prod.ext b2_2 rfl)
theorem b1_wt : b1.1.wt := Ct.apply_wt _ (.snap0 a0.1) trivial _ _
theorem b1_rank : b1.1.rank ≤ 60 := Nat.le_trans (Ct.apply_rank _ _ _ _) (by decide)
theorem b1_fin : Fin 99990 b1.2 := Fin.apply _ _ _ _ a0_fin
attribute [irreducible] b1 b2

theorem cmp_zero (W : World) : (binOp BinOp.neq 32 (.agg (resCells {}).toArray) (.agg #[.int .i64 0, .bool false, .int .u64 0, .string ⟨#[]⟩, .int .i64 0, .int .i64 0, .int .i64 0, .bool false])).run Tryz.prog W = .ok (.bool false) W := by kernel_rfl

set_option maxRecDepth 100000 in
set_option maxHeartbeats 3000000 in
theorem hfin_freeze (w : World) (x y : Int) (c0 c1 c2 c3 c4 c5 c6 c7 : Value) (hx : -9223372036854775808 ≤ x ∧ x ≤ 9223372036854775807) (hy : -9223372036854775808 ≤ y ∧ y ≤ 9223372036854775807) :
    Calls Tryz.prog 4 #[.int .i64 x, .int .i64 y, .agg #[c0, c1, c2, c3, c4, c5, c6, c7], .bool true] w fun e w' => e = .returned (.bool true) ∧ Below w.heap.size w w' := by
  obtain ⟨th, hth⟩ : ∃ z, x % 8 = z := ⟨_, rfl⟩
  obtain ⟨ix, hix⟩ : ∃ z, y % 16 = z := ⟨_, rfl⟩
  have hnum := numberC_in (t := th) (i := ix) (by omega) (by omega) (by omega) (by omega)
  obtain ⟨num, hnu⟩ : ∃ z, Ct.numberC th ix = z := ⟨_, rfl⟩
  have HN1 := Lib.hid (show 1 ≤ num by omega)
  have HNU := Lib.hid (fun W => number_any th ix W)
  rw [hnu] at HNU
  have HE := Lib.hid hnu
  have M1 := Lib.hid (fun W => mod8_any x W hx.1 hx.2)
  have M2 := Lib.hid (fun W => mod16_any y W hy.1 hy.2)
  rw [hth] at M1
  rw [hix] at M2
  clear hth hix hnum hnu hx hy
  obtain ⟨W0, hW0⟩ : ∃ W, w.alloc (.cells #[c0, c1, c2, c3, c4, c5, c6, c7] 32) = W := ⟨_, rfl⟩
  have HB0 := Lib.hid (show Below w.heap.size w W0 by rw [← hW0]; exact (Below.refl _ _).alloc (Nat.le_refl _) _)
  have HZ0 := Lib.hid (show W0.heap.size = w.heap.size + 1 by rw [← hW0]; simp)
  have HX0 := Lib.hid (show W0.heap[w.heap.size]? = some (.cells #[c0, c1, c2, c3, c4, c5, c6, c7] 32 (0, 0)) by rw [← hW0]; exact heap_alloc_at w _)
  have HW0 := Lib.hid hW0
  clear hW0
  go_enter Tryz.func4, Tryz.ntmps4
  go_wp2_with fail
  rw [HW0.out]
  refine (arenaNew_any W0).mono ?_
  rintro e w1 ⟨rfl, ha, hb, hz⟩
  have hfr : Fresh W0.heap.size W0 (newGhost W0.heap.size) w1 := ⟨Keep.below hb _, fun k hk => by
    have := ha.foot k hk
    have : k = W0.heap.size := this
    omega, hb.size⟩
  have A1 := Lib.hid ha; have R1 := Lib.hid hfr
  clear ha hb hfr hz
  go_wp2_with fail
  refine (handleNew_any (newGhost W0.heap.size) w1 {} 7 A1.out (Fin.zero _ (by decide))).mono ?_
  rintro e w2 ⟨rfl, vn2, vc2, N2, ha, ht, hs⟩
  have ea0 : Ct.createC {} = a0 := by unfold a0; rfl
  rw [ea0] at ha ht
  have A2 := Lib.hid ha; have T2 := Lib.hid ht; have R2 := Lib.hid (R1.out.step hs)
  have HZ := Lib.hid R1.out.size
  have HX2 := Lib.hid ((R2.out.keep.block w.heap.size (by have := HZ0.out; omega) (by have := HZ0.out; omega)).trans HX0.out)
  clear ha ht hs ea0
  go_wp2_with fail
  refine (M1.out _).mono ?_
  rintro e w' ⟨rfl, rfl⟩
  go_wp2_with fail
  refine (M2.out _).mono ?_
  rintro e w' ⟨rfl, rfl⟩
  go_wp2_with fail
  obtain ⟨W3, hW3⟩ : ∃ W, w2.alloc (.cells #[.int .i64 9, .int .i64 0, .string ⟨#[]⟩, .int .u64 0, .int .u64 0] 38) = W := ⟨_, rfl⟩
  have HB3 := Lib.hid (show Below w2.heap.size w2 W3 by rw [← hW3]; exact (Below.refl _ _).alloc (Nat.le_refl _) _)
  have HO3 := Lib.hid (show W3.heap[w2.heap.size]? = some (.cells #[.int .i64 9, .int .i64 0, .string ⟨#[]⟩, .int .u64 0, .int .u64 0] 38 (0, 0)) by rw [← hW3]; exact heap_alloc_at w2 _)
  rw [hW3]
  clear hW3
  have lt0 := (Array.getElem?_eq_some_iff.1 HX2.out).1
  have LT0 := Lib.hid lt0
  have HX3 := Lib.hid ((HB3.out.block _ lt0).trans HX2.out)
  have k0 := cell_at HX3.out 0; have k1 := cell_at HX3.out 1; have k2 := cell_at HX3.out 2; have k3 := cell_at HX3.out 3; have k4 := cell_at HX3.out 4; have k5 := cell_at HX3.out 5; have k6 := cell_at HX3.out 6; have k7 := cell_at HX3.out 7
  simp only [List.getElem?_toArray, List.getElem?_cons_zero, List.getElem?_cons_succ] at k0 k1 k2 k3 k4 k5 k6 k7
  have A3 := Lib.hid (A2.out.below HB3.out); have T3 := Lib.hid (T2.out.below HB3.out); have R3 := Lib.hid (R2.out.below HB3.out)
  clear lt0
  refine (HNU.out _).mono ?_
  rintro e w' ⟨rfl, rfl⟩
  go_wp2_with fail
  refine (finish_unknown _ W3 _ _ _ _ _ _ th ix c0 c1 c2 c3 c4 c5 c6 c7 T3.out rfl).mono ?_
  rintro e w4 ⟨rfl, hb4⟩
  obtain ⟨RR, hRR⟩ : ∃ RR, (resCells {}).toArray = RR := ⟨_, rfl⟩
  have hcmp : ∀ W, (binOp BinOp.neq 32 (.agg RR) (.agg #[.int .i64 0, .bool false, .int .u64 0, .string ⟨#[]⟩, .int .i64 0, .int .i64 0, .int .i64 0, .bool false])).run Tryz.prog W = .ok (.bool false) W := by
    rw [← hRR]; exact cmp_zero
  rw [hRR]
  have HB4 := Lib.hid hb4
  have A4 := Lib.hid (A3.out.below hb4); have T4 := Lib.hid (T3.out.below hb4); have R4 := Lib.hid (R3.out.below hb4)
  have HO4 := Lib.hid ((hb4.block _ (Array.getElem?_eq_some_iff.1 HO3.out).1).trans HO3.out)
  have o0 := cell_at HO4.out 0; have o1 := cell_at HO4.out 1; have o2 := cell_at HO4.out 2; have o3 := cell_at HO4.out 3; have o4 := cell_at HO4.out 4
  simp only [List.getElem?_toArray, List.getElem?_cons_zero, List.getElem?_cons_succ] at o0 o1 o2 o3 o4
  clear hRR hb4 k0 k1 k2 k3 k4 k5 k6 k7
  go_wp2_with fail
  refine (begin_freeze _ w4 a0.2 _ _ _ _ 7 _ th ix 0 ⟨#[]⟩ 0 0 a0.1 A4.out T4.out (a0_fin.less (by decide)) (by rw [HE.out]; have := HN1.out; omega) rfl rfl).mono ?_
  rintro e w5 ⟨tb, vn5, vc5, N5, rfl, htb, ha, ht, htk, hs⟩
  rw [HE.out] at ht
  have ea1 : Ct.apply Ct.stOps (.frz0 a0.1) 0 a0.2 = a1 := by unfold a1; rfl
  rw [ea1] at ha htk
  have hrun := run_any tb _ w5 a1.2 a1.1 0 20 ha htk a1_wt a1_rank (a1_fin.less (by decide)) (by decide)
  unfold RunRes at hrun
  rw [a2_eq] at hrun
  have HRUN := Lib.hid hrun
  have T5 := Lib.hid ht; have R5 := Lib.hid (R4.out.stepF hs (fun k e => by have := HZ.out; omega))
  have L3 := Lib.hid (show w1.heap.size + 3 < w4.heap.size from T4.out.lt); have L3' := Lib.hid (show w1.heap.size + 2 < w4.heap.size from T4.out.iters.lt)
  have TB := Lib.hid htb
  clear ha ht htk hs hrun htb ea1 o0 o1 o2 o3 o4 hcmp
  go_wp2_with fail
  refine HRUN.out.mono ?_
  rintro e w6 ⟨rfl, vn6, vc6, N6, ha, hs, htk⟩
  have T6 := Lib.hid (T5.out.stepT hs ⟨by have := TB.out; have := L3.out; omega, by have := TB.out; have := L3.out; omega, by have := TB.out; have := L3.out; omega, by have := TB.out; have := L3'.out; omega⟩)
  have R6 := Lib.hid (R5.out.stepT hs (by have := TB.out; have := R4.out.size; omega))
  have A6 := Lib.hid ha; have K6 := Lib.hid htk
  clear ha hs htk
  go_wp2_with fail
  refine (trie_none _ w6 _ _ _ _ 7 _ num T6.out (look_none HN1.out)).mono ?_
  rintro e w7 ⟨rfl, hb7⟩
  have HB7 := Lib.hid hb7
  clear hb7
  go_wp2_with fail
  obtain ⟨W7, hW7⟩ : ∃ W, w7.alloc (.cells #[.int .i64 0, .bool false] 30) = W := ⟨_, rfl⟩
  have HB7' := Lib.hid (bstep HB7.out HB7.out.size (show Below w7.heap.size w7 W7 by rw [← hW7]; exact (Below.refl _ _).alloc (Nat.le_refl _) _))
  rw [hW7]
  clear hW7
  have A7 := Lib.hid (A6.out.below HB7'.out); have T7 := Lib.hid (T6.out.below HB7'.out); have R7 := Lib.hid (R6.out.below HB7'.out); have K7 := Lib.hid (K6.out.below HB7'.out)
  refine (result_done W7 tb _ _ _ K7.out).mono ?_
  rintro e w8 ⟨rfl, hb8⟩
  have A8 := Lib.hid (A7.out.below hb8); have T8 := Lib.hid (T7.out.below hb8); have R8 := Lib.hid (R7.out.below hb8); have K8 := Lib.hid (K7.out.below hb8)
  clear hb8
  go_wp2_with fail
  refine (finish_freeze _ w8 a2.2.2 _ _ _ _ 7 _ th ix a0.1 { root := 6, readOnly := true } true 0 .empty 0 0 A8.out T8.out (by rw [HE.out]; exact look_ops)).mono ?_
  rintro e w9 ⟨rfl, ha, ht, hk⟩
  rw [HE.out] at ht
  have eR : (resCells { found := true, value := 0, key := .empty, count := 0 }).toArray = #[.int .i64 0, .bool true, .int .u64 0, .string ⟨#[]⟩, .int .i64 0, .int .i64 0, .int .i64 0, .bool false] := rfl
  rw [eR]
  have T9 := Lib.hid ht; have R9 := Lib.hid (R8.out.more hk (fun k e => .inl (by have := HZ.out; omega)) (Nat.le_refl _))
  have K9 := Lib.hid (K8.out.mv (g' := ⟨(newGhost W0.heap.size).a, vn6, vc6, N6⟩) hk (by have := TB.out; have := L3.out; omega) (fun k e => by rcases e with e | e <;> subst e; exact .inl T8.out.inN.2.1; exact .inl T8.out.inN.2.2.1) rfl (fun _ h => .inl h) (fun _ h => h) (fun _ h => .inl h))
  clear ha ht hk eR
  go_wp2_with fail
  obtain ⟨W9, hW9⟩ : ∃ W, w9.alloc (.cells #[.int .i64 0, .bool true, .int .u64 0, .string ⟨#[]⟩, .int .i64 0, .int .i64 0, .int .i64 0, .bool false] 32) = W := ⟨_, rfl⟩
  have HB9 := Lib.hid (show Below w9.heap.size w9 W9 by rw [← hW9]; exact (Below.refl _ _).alloc (Nat.le_refl _) _)
  have HG9 := Lib.hid (show W9.heap[w9.heap.size]? = some (.cells #[.int .i64 0, .bool true, .int .u64 0, .string ⟨#[]⟩, .int .i64 0, .int .i64 0, .int .i64 0, .bool false] 32 (0, 0)) by rw [← hW9]; exact heap_alloc_at w9 _)
  rw [hW9]
  clear hW9
  have T9' := Lib.hid (T9.out.below HB9.out); have R9' := Lib.hid (R9.out.below HB9.out); have K9' := Lib.hid (K9.out.below HB9.out)
  refine (trie_some _ W9 _ _ _ _ 7 _ num { root := 6, readOnly := true } T9'.out (look_tries HN1.out)).mono ?_
  rintro e w10 ⟨rfl, hb10⟩
  have HG10 := Lib.hid (after_below hb10 HG9.out)
  have T10 := Lib.hid (T9'.out.below hb10); have R10 := Lib.hid (R9'.out.below hb10); have K10 := Lib.hid (K9'.out.below hb10)
  have HX10 := Lib.hid ((R10.out.keep.block w.heap.size (by have := HZ0.out; omega) (by have := HZ0.out; omega)).trans HX0.out)
  have k0 : ∀ o, (w10.alloc o).cell? ⟨w.heap.size, 0, none⟩ = some c0 := fun o => cell_at (heap_alloc_of HX10.out o) 0
  have k1 : ∀ o, (w10.alloc o).cell? ⟨w.heap.size, 1, none⟩ = some c1 := fun o => cell_at (heap_alloc_of HX10.out o) 1
  have k2 : ∀ o, (w10.alloc o).cell? ⟨w.heap.size, 2, none⟩ = some c2 := fun o => cell_at (heap_alloc_of HX10.out o) 2
  have k3 : ∀ o, (w10.alloc o).cell? ⟨w.heap.size, 3, none⟩ = some c3 := fun o => cell_at (heap_alloc_of HX10.out o) 3
  have k4 : ∀ o, (w10.alloc o).cell? ⟨w.heap.size, 4, none⟩ = some c4 := fun o => cell_at (heap_alloc_of HX10.out o) 4
  have k5 : ∀ o, (w10.alloc o).cell? ⟨w.heap.size, 5, none⟩ = some c5 := fun o => cell_at (heap_alloc_of HX10.out o) 5
  have k6 : ∀ o, (w10.alloc o).cell? ⟨w.heap.size, 6, none⟩ = some c6 := fun o => cell_at (heap_alloc_of HX10.out o) 6
  have k7 : ∀ o, (w10.alloc o).cell? ⟨w.heap.size, 7, none⟩ = some c7 := fun o => cell_at (heap_alloc_of HX10.out o) 7
  clear hb10
  go_wp2_with fail
  obtain ⟨W10, hW10⟩ : ∃ W, w10.alloc (.cells #[.int .i64 6, .bool true] 30) = W := ⟨_, rfl⟩
  have HB10 := Lib.hid (show Below w10.heap.size w10 W10 by rw [← hW10]; exact (Below.refl _ _).alloc (Nat.le_refl _) _)
  have HH10 := Lib.hid (show W10.heap[w10.heap.size]? = some (.cells #[.int .i64 6, .bool true] 30 (0, 0)) by rw [← hW10]; exact heap_alloc_at w10 _)
  rw [hW10]
  clear hW10 k0 k1 k2 k3 k4 k5 k6 k7
  have T10' := Lib.hid (T10.out.below HB10.out)
  refine (finish_again _ W10 _ _ _ _ 7 _ th ix 9 a0.1 c0 c1 c2 c3 c4 c5 c6 c7 T10'.out (by rw [HE.out]; exact look_again)).mono ?_
  rintro e w11 ⟨rfl, hb11⟩
  have HB11 := Lib.hid (bstep HB10.out HB10.out.size hb11)
  have HG11 := Lib.hid (after_below HB11.out HG10.out); have HH11 := Lib.hid (after_below hb11 HH10.out)
  have T11 := Lib.hid (T10.out.below HB11.out); have R11 := Lib.hid (R10.out.below HB11.out); have K11 := Lib.hid (K10.out.below HB11.out)
  have eZ : (resCells {}).toArray = #[.int .i64 0, .bool false, .int .u64 0, .string ⟨#[]⟩, .int .i64 0, .int .i64 0, .int .i64 0, .bool false] := rfl
  rw [eZ]
  clear hb11 eZ
  go_wp2_with fail
  obtain ⟨W11, hW11⟩ : ∃ W, w11.alloc (.cells #[.int .i64 0, .bool false, .int .u64 0, .string ⟨#[]⟩, .int .i64 0, .int .i64 0, .int .i64 0, .bool false] 32) = W := ⟨_, rfl⟩
  have HBB := Lib.hid (show Below w11.heap.size w11 W11 by rw [← hW11]; exact (Below.refl _ _).alloc (Nat.le_refl _) _)
  have HJ11 := Lib.hid (show W11.heap[w11.heap.size]? = some (.cells #[.int .i64 0, .bool false, .int .u64 0, .string ⟨#[]⟩, .int .i64 0, .int .i64 0, .int .i64 0, .bool false] 32 (0, 0)) by rw [← hW11]; exact heap_alloc_at w11 _)
  rw [hW11]
  clear hW11
  refine (trie_some _ W11 _ _ _ _ 7 _ num { root := 6, readOnly := true } (T11.out.below HBB.out) (look_tries HN1.out)).mono ?_
  rintro e w12 ⟨rfl, hb12⟩
  have HB12 := Lib.hid (bstep HBB.out HBB.out.size hb12)
  have HG12 := Lib.hid (after_below HB12.out HG11.out); have HH12 := Lib.hid (after_below HB12.out HH11.out); have HJ12 := Lib.hid (after_below hb12 HJ11.out)
  have R12 := Lib.hid (R11.out.below HB12.out); have K12 := Lib.hid (K11.out.below HB12.out)
  clear hb12
  go_wp2_with fail
  obtain ⟨W12, hW12⟩ : ∃ W, w12.alloc (.cells #[.int .i64 6, .bool true] 30) = W := ⟨_, rfl⟩
  have HBC := Lib.hid (show Below w12.heap.size w12 W12 by rw [← hW12]; exact (Below.refl _ _).alloc (Nat.le_refl _) _)
  have HL13 := Lib.hid (show W12.heap[w12.heap.size]? = some (.cells #[.int .i64 6, .bool true] 30 (0, 0)) by rw [← hW12]; exact heap_alloc_at w12 _)
  have HG13 := Lib.hid (after_below HBC.out HG12.out); have HH13 := Lib.hid (after_below HBC.out HH12.out); have HJ13 := Lib.hid (after_below HBC.out HJ12.out)
  have R13 := Lib.hid (R12.out.below HBC.out); have K13 := Lib.hid (K12.out.below HBC.out)
  refine code_world hW12 ?_
  clear hW12
  have HS : Hid (∀ W', Below W12.heap.size W12 W' → (W'.cell? ⟨w9.heap.size, 0, none⟩ = some (.int .i64 0) ∧ W'.cell? ⟨w9.heap.size, 1, none⟩ = some (.bool true) ∧ W'.cell? ⟨w9.heap.size, 2, none⟩ = some (.int .u64 0) ∧ W'.cell? ⟨w9.heap.size, 3, none⟩ = some (.string ⟨#[]⟩) ∧ W'.cell? ⟨w9.heap.size, 4, none⟩ = some (.int .i64 0) ∧ W'.cell? ⟨w9.heap.size, 5, none⟩ = some (.int .i64 0) ∧ W'.cell? ⟨w9.heap.size, 6, none⟩ = some (.int .i64 0) ∧ W'.cell? ⟨w9.heap.size, 7, none⟩ = some (.bool false) ∧ W'.cell? ⟨w10.heap.size, 0, none⟩ = some (.int .i64 6) ∧ W'.cell? ⟨w10.heap.size, 1, none⟩ = some (.bool true) ∧ W'.cell? ⟨w11.heap.size, 0, none⟩ = some (.int .i64 0) ∧ W'.cell? ⟨w11.heap.size, 1, none⟩ = some (.bool false) ∧ W'.cell? ⟨w11.heap.size, 2, none⟩ = some (.int .u64 0) ∧ W'.cell? ⟨w11.heap.size, 3, none⟩ = some (.string ⟨#[]⟩) ∧ W'.cell? ⟨w11.heap.size, 4, none⟩ = some (.int .i64 0) ∧ W'.cell? ⟨w11.heap.size, 5, none⟩ = some (.int .i64 0) ∧ W'.cell? ⟨w11.heap.size, 6, none⟩ = some (.int .i64 0) ∧ W'.cell? ⟨w11.heap.size, 7, none⟩ = some (.bool false) ∧ W'.cell? ⟨w12.heap.size, 0, none⟩ = some (.int .i64 6) ∧ W'.cell? ⟨w12.heap.size, 1, none⟩ = some (.bool true) ∧ Below W12.heap.size W12 W')) := fun W' hq => ⟨cell_at (after_below hq HG13.out) 0, cell_at (after_below hq HG13.out) 1, cell_at (after_below hq HG13.out) 2, cell_at (after_below hq HG13.out) 3, cell_at (after_below hq HG13.out) 4, cell_at (after_below hq HG13.out) 5, cell_at (after_below hq HG13.out) 6, cell_at (after_below hq HG13.out) 7, cell_at (after_below hq HH13.out) 0, cell_at (after_below hq HH13.out) 1, cell_at (after_below hq HJ13.out) 0, cell_at (after_below hq HJ13.out) 1, cell_at (after_below hq HJ13.out) 2, cell_at (after_below hq HJ13.out) 3, cell_at (after_below hq HJ13.out) 4, cell_at (after_below hq HJ13.out) 5, cell_at (after_below hq HJ13.out) 6, cell_at (after_below hq HJ13.out) 7, cell_at (after_below hq HL13.out) 0, cell_at (after_below hq HL13.out) 1, hq⟩
  have AW := Lib.hid awake_any
  refine wp_region_held_drew (S := fun W' => W'.cell? ⟨w9.heap.size, 0, none⟩ = some (.int .i64 0) ∧ W'.cell? ⟨w9.heap.size, 1, none⟩ = some (.bool true) ∧ W'.cell? ⟨w9.heap.size, 2, none⟩ = some (.int .u64 0) ∧ W'.cell? ⟨w9.heap.size, 3, none⟩ = some (.string ⟨#[]⟩) ∧ W'.cell? ⟨w9.heap.size, 4, none⟩ = some (.int .i64 0) ∧ W'.cell? ⟨w9.heap.size, 5, none⟩ = some (.int .i64 0) ∧ W'.cell? ⟨w9.heap.size, 6, none⟩ = some (.int .i64 0) ∧ W'.cell? ⟨w9.heap.size, 7, none⟩ = some (.bool false) ∧ W'.cell? ⟨w10.heap.size, 0, none⟩ = some (.int .i64 6) ∧ W'.cell? ⟨w10.heap.size, 1, none⟩ = some (.bool true) ∧ W'.cell? ⟨w11.heap.size, 0, none⟩ = some (.int .i64 0) ∧ W'.cell? ⟨w11.heap.size, 1, none⟩ = some (.bool false) ∧ W'.cell? ⟨w11.heap.size, 2, none⟩ = some (.int .u64 0) ∧ W'.cell? ⟨w11.heap.size, 3, none⟩ = some (.string ⟨#[]⟩) ∧ W'.cell? ⟨w11.heap.size, 4, none⟩ = some (.int .i64 0) ∧ W'.cell? ⟨w11.heap.size, 5, none⟩ = some (.int .i64 0) ∧ W'.cell? ⟨w11.heap.size, 6, none⟩ = some (.int .i64 0) ∧ W'.cell? ⟨w11.heap.size, 7, none⟩ = some (.bool false) ∧ W'.cell? ⟨w12.heap.size, 0, none⟩ = some (.int .i64 6) ∧ W'.cell? ⟨w12.heap.size, 1, none⟩ = some (.bool true) ∧ Below W12.heap.size W12 W') (by kernel_rfl) (HS.out _ (Below.drewed W12)) (fun hS => ?_)
  refine wpAnyH_ready (rs := [0]) (by kernel_rfl) (by simp) ?_
  refine AllReadyH.cons (o := { dst := (some 85), op := (Op.call { callee := (Callee.value (Operand.func 6)), args := #[], argTypes := #[] }), type := 4, pos := "law.go:188", after := #[], guard := none }) rfl (fun K hK => ?_) AllReadyH.nil
  go_simp
  refine (AW.out _).mono ?_
  rintro e w13 ⟨rfl, hb13⟩
  have HB13 := Lib.hid (bstep (Below.drewed W12) (Nat.le_refl _) hb13)
  clear hb13
  go_simp
  refine hK.out _ _ (HS.out _ HB13.out) (fun hS => ?_)
  clear hK K
  (try simp only [Act.put, List.setIfInBounds_toArray, List.set_cons_zero, List.set_cons_succ])
  refine wpAnyH_take (i := 1) (oi := { dst := (some 86), op := (Op.move (Operand.tmp 85)), type := 4, pos := "law.go:188", after := #[{ on := 0, ground := Ground.data }, { on := 0, ground := Ground.chain }], guard := none }) (v := .bool true) rfl (by kernel_rfl) (by kernel_rfl) (by kernel_rfl) (fun _ _ _ h => h) (Or.inl ⟨by rfl, fun W' hW => ?_⟩) hS ?_
  · go_simp
  (try simp only [Act.put, List.setIfInBounds_toArray, List.set_cons_zero, List.set_cons_succ])
  refine wpAnyH_take (i := 2) (oi := { dst := (some 87), op := (Op.move (Operand.tmp 15)), type := 4, pos := "law.go:188", after := #[{ on := 1, ground := Ground.guard }], guard := (some (1, true)) }) (v := .bool false) rfl (by kernel_rfl) (by kernel_rfl) (by kernel_rfl) (fun _ _ _ h => h) (Or.inl ⟨by rfl, fun W' hW => ?_⟩) hS ?_
  · go_simp
  (try simp only [Act.put, List.setIfInBounds_toArray, List.set_cons_zero, List.set_cons_succ])
  refine wpAnyH_take (i := 3) (oi := { dst := (some 88), op := (Op.unOp UnOp.not 4 (Operand.tmp 87)), type := 4, pos := "law.go:188", after := #[{ on := 2, ground := Ground.data }, { on := 1, ground := Ground.guard }], guard := (some (1, true)) }) (v := .bool true) rfl (by kernel_rfl) (by kernel_rfl) (by kernel_rfl) (fun _ _ _ h => h) (Or.inl ⟨by rfl, fun W' hW => ?_⟩) hS ?_
  · go_simp
  (try simp only [Act.put, List.setIfInBounds_toArray, List.set_cons_zero, List.set_cons_succ])
  refine wpAnyH_take (i := 4) (oi := { dst := (some 89), op := (Op.pick (Operand.tmp 86) (Operand.tmp 88) (Operand.const (Value.bool false))), type := 4, pos := "law.go:188", after := #[{ on := 1, ground := Ground.data }, { on := 3, ground := Ground.data }], guard := none }) (v := .bool true) rfl (by kernel_rfl) (by kernel_rfl) (by kernel_rfl) (fun _ _ _ h => h) (Or.inl ⟨by rfl, fun W' hW => ?_⟩) hS ?_
  · go_simp
  (try simp only [Act.put, List.setIfInBounds_toArray, List.set_cons_zero, List.set_cons_succ])
  refine wpAnyH_take (i := 5) (oi := { dst := (some 90), op := (Op.move (Operand.tmp 89)), type := 4, pos := "law.go:188", after := #[{ on := 4, ground := Ground.data }, { on := 1, ground := Ground.chain }], guard := none }) (v := .bool true) rfl (by kernel_rfl) (by kernel_rfl) (by kernel_rfl) (fun _ _ _ h => h) (Or.inl ⟨by rfl, fun W' hW => ?_⟩) hS ?_
  · go_simp
  (try simp only [Act.put, List.setIfInBounds_toArray, List.set_cons_zero, List.set_cons_succ])
  refine wpAnyH_take (i := 6) (oi := { dst := (some 91), op := (Op.load 32 (Operand.tmp 16)), type := 32, pos := "law.go:188", after := #[{ on := 5, ground := Ground.guard }], guard := (some (5, true)) }) (v := .agg #[.int .i64 0, .bool true, .int .u64 0, .string ⟨#[]⟩, .int .i64 0, .int .i64 0, .int .i64 0, .bool false]) rfl (by kernel_rfl) (by kernel_rfl) (by kernel_rfl) (fun _ _ _ h => h) (Or.inl ⟨by rfl, fun W' hW => ?_⟩) hS ?_
  · go_simp
  (try simp only [Act.put, List.setIfInBounds_toArray, List.set_cons_zero, List.set_cons_succ])
  refine wpAnyH_take (i := 7) (oi := { dst := (some 92), op := (Op.build 32 #[(1, (Operand.const (Value.bool true)))]), type := 32, pos := "law.go:188", after := #[{ on := 5, ground := Ground.guard }], guard := (some (5, true)) }) (v := .agg #[.int .i64 0, .bool true, .int .u64 0, .string ⟨#[]⟩, .int .i64 0, .int .i64 0, .int .i64 0, .bool false]) rfl (by kernel_rfl) (by kernel_rfl) (by kernel_rfl) (fun _ _ _ h => h) (Or.inl ⟨by rfl, fun W' hW => ?_⟩) hS ?_
  · go_simp
  (try simp only [Act.put, List.setIfInBounds_toArray, List.set_cons_zero, List.set_cons_succ])
  refine wpAnyH_take (i := 8) (oi := { dst := (some 93), op := (Op.binOp BinOp.eql 32 (Operand.tmp 91) (Operand.tmp 92) 32), type := 4, pos := "law.go:188", after := #[{ on := 6, ground := Ground.data }, { on := 7, ground := Ground.data }, { on := 5, ground := Ground.guard }], guard := (some (5, true)) }) (v := .bool true) rfl (by kernel_rfl) (by kernel_rfl) (by kernel_rfl) (fun _ _ _ h => h) (Or.inl ⟨by rfl, fun W' hW => ?_⟩) hS ?_
  · kernel_rfl
  (try simp only [Act.put, List.setIfInBounds_toArray, List.set_cons_zero, List.set_cons_succ])
  refine wpAnyH_take (i := 9) (oi := { dst := (some 94), op := (Op.pick (Operand.tmp 90) (Operand.tmp 93) (Operand.const (Value.bool false))), type := 4, pos := "law.go:188", after := #[{ on := 5, ground := Ground.data }, { on := 8, ground := Ground.data }], guard := none }) (v := .bool true) rfl (by kernel_rfl) (by kernel_rfl) (by kernel_rfl) (fun _ _ _ h => h) (Or.inl ⟨by rfl, fun W' hW => ?_⟩) hS ?_
  · go_simp
  (try simp only [Act.put, List.setIfInBounds_toArray, List.set_cons_zero, List.set_cons_succ])
  refine wpAnyH_take (i := 10) (oi := { dst := (some 95), op := (Op.move (Operand.tmp 94)), type := 4, pos := "law.go:188", after := #[{ on := 9, ground := Ground.data }, { on := 5, ground := Ground.chain }], guard := none }) (v := .bool true) rfl (by kernel_rfl) (by kernel_rfl) (by kernel_rfl) (fun _ _ _ h => h) (Or.inl ⟨by rfl, fun W' hW => ?_⟩) hS ?_
  · go_simp
  (try simp only [Act.put, List.setIfInBounds_toArray, List.set_cons_zero, List.set_cons_succ])
  refine wpAnyH_take (i := 11) (oi := { dst := (some 96), op := (Op.move (Operand.tmp 18)), type := 4, pos := "law.go:188", after := #[{ on := 10, ground := Ground.guard }], guard := (some (10, true)) }) (v := .bool true) rfl (by kernel_rfl) (by kernel_rfl) (by kernel_rfl) (fun _ _ _ h => h) (Or.inl ⟨by rfl, fun W' hW => ?_⟩) hS ?_
  · go_simp
  (try simp only [Act.put, List.setIfInBounds_toArray, List.set_cons_zero, List.set_cons_succ])
  refine wpAnyH_take (i := 12) (oi := { dst := (some 97), op := (Op.pick (Operand.tmp 95) (Operand.tmp 96) (Operand.const (Value.bool false))), type := 4, pos := "law.go:188", after := #[{ on := 10, ground := Ground.data }, { on := 11, ground := Ground.data }], guard := none }) (v := .bool true) rfl (by kernel_rfl) (by kernel_rfl) (by kernel_rfl) (fun _ _ _ h => h) (Or.inl ⟨by rfl, fun W' hW => ?_⟩) hS ?_
  · go_simp
  (try simp only [Act.put, List.setIfInBounds_toArray, List.set_cons_zero, List.set_cons_succ])
  refine wpAnyH_take (i := 13) (oi := { dst := (some 98), op := (Op.move (Operand.tmp 97)), type := 4, pos := "law.go:188", after := #[{ on := 12, ground := Ground.data }, { on := 10, ground := Ground.chain }], guard := none }) (v := .bool true) rfl (by kernel_rfl) (by kernel_rfl) (by kernel_rfl) (fun _ _ _ h => h) (Or.inl ⟨by rfl, fun W' hW => ?_⟩) hS ?_
  · go_simp
  (try simp only [Act.put, List.setIfInBounds_toArray, List.set_cons_zero, List.set_cons_succ])
  refine wpAnyH_take (i := 14) (oi := { dst := (some 99), op := (Op.move (Operand.tmp 21)), type := 4, pos := "law.go:188", after := #[{ on := 13, ground := Ground.guard }], guard := (some (13, true)) }) (v := .bool true) rfl (by kernel_rfl) (by kernel_rfl) (by kernel_rfl) (fun _ _ _ h => h) (Or.inl ⟨by rfl, fun W' hW => ?_⟩) hS ?_
  · go_simp
  (try simp only [Act.put, List.setIfInBounds_toArray, List.set_cons_zero, List.set_cons_succ])
  refine wpAnyH_take (i := 15) (oi := { dst := (some 100), op := (Op.pick (Operand.tmp 98) (Operand.tmp 99) (Operand.const (Value.bool false))), type := 4, pos := "law.go:188", after := #[{ on := 13, ground := Ground.data }, { on := 14, ground := Ground.data }], guard := none }) (v := .bool true) rfl (by kernel_rfl) (by kernel_rfl) (by kernel_rfl) (fun _ _ _ h => h) (Or.inl ⟨by rfl, fun W' hW => ?_⟩) hS ?_
  · go_simp
  (try simp only [Act.put, List.setIfInBounds_toArray, List.set_cons_zero, List.set_cons_succ])
  refine wpAnyH_take (i := 16) (oi := { dst := (some 101), op := (Op.move (Operand.tmp 100)), type := 4, pos := "law.go:188", after := #[{ on := 15, ground := Ground.data }, { on := 13, ground := Ground.chain }], guard := none }) (v := .bool true) rfl (by kernel_rfl) (by kernel_rfl) (by kernel_rfl) (fun _ _ _ h => h) (Or.inl ⟨by rfl, fun W' hW => ?_⟩) hS ?_
  · go_simp
  (try simp only [Act.put, List.setIfInBounds_toArray, List.set_cons_zero, List.set_cons_succ])
  refine wpAnyH_take (i := 17) (oi := { dst := (some 102), op := (Op.load 30 (Operand.tmp 17)), type := 30, pos := "law.go:188", after := #[{ on := 16, ground := Ground.guard }], guard := (some (16, true)) }) (v := .agg #[.int .i64 6, .bool true]) rfl (by kernel_rfl) (by kernel_rfl) (by kernel_rfl) (fun _ _ _ h => h) (Or.inl ⟨by rfl, fun W' hW => ?_⟩) hS ?_
  · go_simp
  (try simp only [Act.put, List.setIfInBounds_toArray, List.set_cons_zero, List.set_cons_succ])
  refine wpAnyH_take (i := 18) (oi := { dst := (some 103), op := (Op.load 30 (Operand.tmp 20)), type := 30, pos := "law.go:188", after := #[{ on := 16, ground := Ground.guard }], guard := (some (16, true)) }) (v := .agg #[.int .i64 6, .bool true]) rfl (by kernel_rfl) (by kernel_rfl) (by kernel_rfl) (fun _ _ _ h => h) (Or.inl ⟨by rfl, fun W' hW => ?_⟩) hS ?_
  · go_simp
  (try simp only [Act.put, List.setIfInBounds_toArray, List.set_cons_zero, List.set_cons_succ])
  refine wpAnyH_take (i := 19) (oi := { dst := (some 104), op := (Op.binOp BinOp.eql 30 (Operand.tmp 102) (Operand.tmp 103) 30), type := 4, pos := "law.go:188", after := #[{ on := 17, ground := Ground.data }, { on := 18, ground := Ground.data }, { on := 16, ground := Ground.guard }], guard := (some (16, true)) }) (v := .bool true) rfl (by kernel_rfl) (by kernel_rfl) (by kernel_rfl) (fun _ _ _ h => h) (Or.inl ⟨by rfl, fun W' hW => ?_⟩) hS ?_
  · kernel_rfl
  (try simp only [Act.put, List.setIfInBounds_toArray, List.set_cons_zero, List.set_cons_succ])
  refine wpAnyH_take (i := 20) (oi := { dst := (some 105), op := (Op.pick (Operand.tmp 101) (Operand.tmp 104) (Operand.const (Value.bool false))), type := 4, pos := "law.go:188", after := #[{ on := 16, ground := Ground.data }, { on := 19, ground := Ground.data }], guard := none }) (v := .bool true) rfl (by kernel_rfl) (by kernel_rfl) (by kernel_rfl) (fun _ _ _ h => h) (Or.inl ⟨by rfl, fun W' hW => ?_⟩) hS ?_
  · go_simp
  (try simp only [Act.put, List.setIfInBounds_toArray, List.set_cons_zero, List.set_cons_succ])
  refine wpAnyH_take (i := 21) (oi := { dst := (some 106), op := (Op.move (Operand.tmp 105)), type := 4, pos := "law.go:188", after := #[{ on := 20, ground := Ground.data }, { on := 16, ground := Ground.chain }], guard := none }) (v := .bool true) rfl (by kernel_rfl) (by kernel_rfl) (by kernel_rfl) (fun _ _ _ h => h) (Or.inl ⟨by rfl, fun W' hW => ?_⟩) hS ?_
  · go_simp
  (try simp only [Act.put, List.setIfInBounds_toArray, List.set_cons_zero, List.set_cons_succ])
  refine wpAnyH_take (i := 22) (oi := { dst := (some 107), op := (Op.load 30 (Operand.tmp 17)), type := 30, pos := "law.go:188", after := #[{ on := 21, ground := Ground.guard }], guard := (some (21, true)) }) (v := .agg #[.int .i64 6, .bool true]) rfl (by kernel_rfl) (by kernel_rfl) (by kernel_rfl) (fun _ _ _ h => h) (Or.inl ⟨by rfl, fun W' hW => ?_⟩) hS ?_
  · go_simp
  (try simp only [Act.put, List.setIfInBounds_toArray, List.set_cons_zero, List.set_cons_succ])
  refine wpAnyH_take (i := 23) (oi := { dst := (some 108), op := (Op.move (Operand.tmp 13)), type := 40, pos := "law.go:188", after := #[{ on := 21, ground := Ground.guard }], guard := (some (21, true)) }) (v := .pointer (some ⟨tb, 0, none⟩)) rfl (by kernel_rfl) (by kernel_rfl) (by kernel_rfl) (fun _ _ _ h => h) (Or.inl ⟨by rfl, fun W' hW => ?_⟩) hS ?_
  · go_simp
  (try simp only [Act.put, List.setIfInBounds_toArray, List.set_cons_zero, List.set_cons_succ])
  refine wpAnyH_ready (rs := [24]) (by kernel_rfl) (by simp) ?_
  refine AllReadyH.cons (o := { dst := (some 109), op := (Op.call { callee := (Callee.value (Operand.func 15)), args := #[(Operand.tmp 108)], argTypes := #[40] }), type := 32, pos := "law.go:188", after := #[{ on := 23, ground := Ground.data }, { on := 21, ground := Ground.chain }, { on := 21, ground := Ground.guard }], guard := (some (21, true)) }) rfl (fun K hK => ?_) AllReadyH.nil
  go_simp
  refine (result_done _ tb _ _ _ (K13.out.below HB13.out)).mono ?_
  rintro e w14 ⟨rfl, hb14⟩
  have HB14 := Lib.hid (bstep HB13.out HB13.out.size hb14)
  clear hb14
  have eD : (resCells { found := true, trie := { root := 6, readOnly := true } }).toArray = #[.int .i64 0, .bool true, .int .u64 0, .string ⟨#[]⟩, .int .i64 0, .int .i64 0, .int .i64 6, .bool true] := rfl
  rw [eD]
  go_simp
  refine hK.out _ _ (HS.out _ HB14.out) (fun hS => ?_)
  clear hK K
  (try simp only [Act.put, List.setIfInBounds_toArray, List.set_cons_zero, List.set_cons_succ])
  refine wpAnyH_take (i := 25) (oi := { dst := (some 110), op := (Op.field 32 (Operand.tmp 109) 6), type := 30, pos := "law.go:188", after := #[{ on := 24, ground := Ground.data }, { on := 21, ground := Ground.guard }], guard := (some (21, true)) }) (v := .agg #[.int .i64 6, .bool true]) rfl (by kernel_rfl) (by kernel_rfl) (by kernel_rfl) (fun _ _ _ h => h) (Or.inl ⟨by rfl, fun W' hW => ?_⟩) hS ?_
  · kernel_rfl
  (try simp only [Act.put, List.setIfInBounds_toArray, List.set_cons_zero, List.set_cons_succ])
  refine wpAnyH_take (i := 26) (oi := { dst := (some 111), op := (Op.binOp BinOp.eql 30 (Operand.tmp 107) (Operand.tmp 110) 30), type := 4, pos := "law.go:188", after := #[{ on := 22, ground := Ground.data }, { on := 25, ground := Ground.data }, { on := 21, ground := Ground.guard }], guard := (some (21, true)) }) (v := .bool true) rfl (by kernel_rfl) (by kernel_rfl) (by kernel_rfl) (fun _ _ _ h => h) (Or.inl ⟨by rfl, fun W' hW => ?_⟩) hS ?_
  · kernel_rfl
  (try simp only [Act.put, List.setIfInBounds_toArray, List.set_cons_zero, List.set_cons_succ])
  refine wpAnyH_take (i := 27) (oi := { dst := (some 112), op := (Op.pick (Operand.tmp 106) (Operand.tmp 111) (Operand.const (Value.bool false))), type := 4, pos := "law.go:188", after := #[{ on := 21, ground := Ground.data }, { on := 26, ground := Ground.data }], guard := none }) (v := .bool true) rfl (by kernel_rfl) (by kernel_rfl) (by kernel_rfl) (fun _ _ _ h => h) (Or.inl ⟨by rfl, fun W' hW => ?_⟩) hS ?_
  · go_simp
  (try simp only [Act.put, List.setIfInBounds_toArray, List.set_cons_zero, List.set_cons_succ])
  refine wpAnyH_take (i := 28) (oi := { dst := (some 113), op := (Op.move (Operand.tmp 112)), type := 4, pos := "law.go:188", after := #[{ on := 27, ground := Ground.data }, { on := 24, ground := Ground.chain }], guard := none }) (v := .bool true) rfl (by kernel_rfl) (by kernel_rfl) (by kernel_rfl) (fun _ _ _ h => h) (Or.inl ⟨by rfl, fun W' hW => ?_⟩) hS ?_
  · go_simp
  (try simp only [Act.put, List.setIfInBounds_toArray, List.set_cons_zero, List.set_cons_succ])
  refine wpAnyH_take (i := 29) (oi := { dst := (some 114), op := (Op.fieldAddr 30 (Operand.tmp 17) 1), type := 0, pos := "law.go:188", after := #[{ on := 28, ground := Ground.guard }], guard := (some (28, true)) }) (v := .pointer (some ⟨w10.heap.size, 1, none⟩)) rfl (by kernel_rfl) (by kernel_rfl) (by kernel_rfl) (fun _ _ _ h => h) (Or.inl ⟨by rfl, fun W' hW => ?_⟩) hS ?_
  · go_simp
  (try simp only [Act.put, List.setIfInBounds_toArray, List.set_cons_zero, List.set_cons_succ])
  refine wpAnyH_take (i := 30) (oi := { dst := (some 115), op := (Op.load 4 (Operand.tmp 114)), type := 4, pos := "law.go:188", after := #[{ on := 29, ground := Ground.data }, { on := 28, ground := Ground.guard }], guard := (some (28, true)) }) (v := .bool true) rfl (by kernel_rfl) (by kernel_rfl) (by kernel_rfl) (fun _ _ _ h => h) (Or.inl ⟨by rfl, fun W' hW => ?_⟩) hS ?_
  · go_simp
  (try simp only [Act.put, List.setIfInBounds_toArray, List.set_cons_zero, List.set_cons_succ])
  refine wpAnyH_take (i := 31) (oi := { dst := (some 116), op := (Op.move (Operand.tmp 3)), type := 4, pos := "law.go:188", after := #[{ on := 28, ground := Ground.guard }], guard := (some (28, true)) }) (v := .bool true) rfl (by kernel_rfl) (by kernel_rfl) (by kernel_rfl) (fun _ _ _ h => h) (Or.inl ⟨by rfl, fun W' hW => ?_⟩) hS ?_
  · go_simp
  (try simp only [Act.put, List.setIfInBounds_toArray, List.set_cons_zero, List.set_cons_succ])
  refine wpAnyH_take (i := 32) (oi := { dst := (some 117), op := (Op.binOp BinOp.eql 4 (Operand.tmp 115) (Operand.tmp 116) 4), type := 4, pos := "law.go:188", after := #[{ on := 30, ground := Ground.data }, { on := 31, ground := Ground.data }, { on := 28, ground := Ground.guard }], guard := (some (28, true)) }) (v := .bool true) rfl (by kernel_rfl) (by kernel_rfl) (by kernel_rfl) (fun _ _ _ h => h) (Or.inl ⟨by rfl, fun W' hW => ?_⟩) hS ?_
  · go_simp
  (try simp only [Act.put, List.setIfInBounds_toArray, List.set_cons_zero, List.set_cons_succ])
  refine wpAnyH_take (i := 33) (oi := { dst := (some 118), op := (Op.pick (Operand.tmp 113) (Operand.tmp 117) (Operand.const (Value.bool false))), type := 4, pos := "law.go:188", after := #[{ on := 28, ground := Ground.data }, { on := 32, ground := Ground.data }], guard := none }) (v := .bool true) rfl (by kernel_rfl) (by kernel_rfl) (by kernel_rfl) (fun _ _ _ h => h) (Or.inl ⟨by rfl, fun W' hW => ?_⟩) hS ?_
  · go_simp
  (try simp only [Act.put, List.setIfInBounds_toArray, List.set_cons_zero, List.set_cons_succ])
  refine wpAnyH_take (i := 34) (oi := { dst := (some 119), op := (Op.move (Operand.tmp 118)), type := 4, pos := "law.go:188", after := #[{ on := 33, ground := Ground.data }, { on := 28, ground := Ground.chain }], guard := none }) (v := .bool true) rfl (by kernel_rfl) (by kernel_rfl) (by kernel_rfl) (fun _ _ _ h => h) (Or.inl ⟨by rfl, fun W' hW => ?_⟩) hS ?_
  · go_simp
  (try simp only [Act.put, List.setIfInBounds_toArray, List.set_cons_zero, List.set_cons_succ])
  refine wpAnyH_take (i := 35) (oi := { dst := (some 120), op := (Op.load 32 (Operand.tmp 19)), type := 32, pos := "law.go:188", after := #[{ on := 34, ground := Ground.guard }], guard := (some (34, true)) }) (v := .agg #[.int .i64 0, .bool false, .int .u64 0, .string ⟨#[]⟩, .int .i64 0, .int .i64 0, .int .i64 0, .bool false]) rfl (by kernel_rfl) (by kernel_rfl) (by kernel_rfl) (fun _ _ _ h => h) (Or.inl ⟨by rfl, fun W' hW => ?_⟩) hS ?_
  · go_simp
  (try simp only [Act.put, List.setIfInBounds_toArray, List.set_cons_zero, List.set_cons_succ])
  refine wpAnyH_take (i := 36) (oi := { dst := (some 121), op := (Op.build 32 #[]), type := 32, pos := "law.go:188", after := #[{ on := 34, ground := Ground.guard }], guard := (some (34, true)) }) (v := .agg #[.int .i64 0, .bool false, .int .u64 0, .string ⟨#[]⟩, .int .i64 0, .int .i64 0, .int .i64 0, .bool false]) rfl (by kernel_rfl) (by kernel_rfl) (by kernel_rfl) (fun _ _ _ h => h) (Or.inl ⟨by rfl, fun W' hW => ?_⟩) hS ?_
  · go_simp
  (try simp only [Act.put, List.setIfInBounds_toArray, List.set_cons_zero, List.set_cons_succ])
  refine wpAnyH_take (i := 37) (oi := { dst := (some 122), op := (Op.binOp BinOp.eql 32 (Operand.tmp 120) (Operand.tmp 121) 32), type := 4, pos := "law.go:188", after := #[{ on := 35, ground := Ground.data }, { on := 36, ground := Ground.data }, { on := 34, ground := Ground.guard }], guard := (some (34, true)) }) (v := .bool true) rfl (by kernel_rfl) (by kernel_rfl) (by kernel_rfl) (fun _ _ _ h => h) (Or.inl ⟨by rfl, fun W' hW => ?_⟩) hS ?_
  · kernel_rfl
  (try simp only [Act.put, List.setIfInBounds_toArray, List.set_cons_zero, List.set_cons_succ])
  refine wpAnyH_take (i := 38) (oi := { dst := (some 123), op := (Op.pick (Operand.tmp 119) (Operand.tmp 122) (Operand.const (Value.bool false))), type := 4, pos := "law.go:188", after := #[{ on := 34, ground := Ground.data }, { on := 37, ground := Ground.data }], guard := none }) (v := .bool true) rfl (by kernel_rfl) (by kernel_rfl) (by kernel_rfl) (fun _ _ _ h => h) (Or.inl ⟨by rfl, fun W' hW => ?_⟩) hS ?_
  · go_simp
  (try simp only [Act.put, List.setIfInBounds_toArray, List.set_cons_zero, List.set_cons_succ])
  refine wpAnyH_take (i := 39) (oi := { dst := (some 8), op := (Op.assign (Operand.tmp 123)), type := 4, pos := "law.go:188", after := #[{ on := 38, ground := Ground.data }, { on := 34, ground := Ground.chain }, { on := 0, ground := Ground.phase }, { on := 1, ground := Ground.phase }, { on := 2, ground := Ground.phase }, { on := 3, ground := Ground.phase }, { on := 4, ground := Ground.phase }, { on := 5, ground := Ground.phase }, { on := 6, ground := Ground.phase }, { on := 7, ground := Ground.phase }, { on := 8, ground := Ground.phase }, { on := 9, ground := Ground.phase }, { on := 10, ground := Ground.phase }, { on := 11, ground := Ground.phase }, { on := 12, ground := Ground.phase }, { on := 13, ground := Ground.phase }, { on := 14, ground := Ground.phase }, { on := 15, ground := Ground.phase }, { on := 16, ground := Ground.phase }, { on := 17, ground := Ground.phase }, { on := 18, ground := Ground.phase }, { on := 19, ground := Ground.phase }, { on := 20, ground := Ground.phase }, { on := 21, ground := Ground.phase }, { on := 22, ground := Ground.phase }, { on := 23, ground := Ground.phase }, { on := 24, ground := Ground.phase }, { on := 25, ground := Ground.phase }, { on := 26, ground := Ground.phase }, { on := 27, ground := Ground.phase }, { on := 28, ground := Ground.phase }, { on := 29, ground := Ground.phase }, { on := 30, ground := Ground.phase }, { on := 31, ground := Ground.phase }, { on := 32, ground := Ground.phase }, { on := 33, ground := Ground.phase }, { on := 34, ground := Ground.phase }, { on := 35, ground := Ground.phase }, { on := 36, ground := Ground.phase }, { on := 37, ground := Ground.phase }, { on := 38, ground := Ground.phase }], guard := none }) (v := .bool true) rfl (by kernel_rfl) (by kernel_rfl) (by kernel_rfl) (fun _ _ _ h => h) (Or.inl ⟨by rfl, fun W' hW => ?_⟩) hS ?_
  · go_simp
  (try simp only [Act.put, List.setIfInBounds_toArray, List.set_cons_zero, List.set_cons_succ])
  refine wpAnyH_done (by kernel_rfl) ?_ _
  go_wp2_with fail
  go_ret
  exact ⟨rfl, bstep HB0.out HB0.out.size ((R13.out.below (g := _) HB14.out).toBelow)⟩

set_option maxRecDepth 100000 in
set_option maxHeartbeats 3000000 in
theorem hfin_snapshot (w : World) (x y : Int) (c0 c1 c2 c3 c4 c5 c6 c7 : Value) (hx : -9223372036854775808 ≤ x ∧ x ≤ 9223372036854775807) (hy : -9223372036854775808 ≤ y ∧ y ≤ 9223372036854775807) :
    Calls Tryz.prog 4 #[.int .i64 x, .int .i64 y, .agg #[c0, c1, c2, c3, c4, c5, c6, c7], .bool false] w fun e w' => e = .returned (.bool true) ∧ Below w.heap.size w w' := by
  obtain ⟨th, hth⟩ : ∃ z, x % 8 = z := ⟨_, rfl⟩
  obtain ⟨ix, hix⟩ : ∃ z, y % 16 = z := ⟨_, rfl⟩
  have hnum := numberC_in (t := th) (i := ix) (by omega) (by omega) (by omega) (by omega)
  obtain ⟨num, hnu⟩ : ∃ z, Ct.numberC th ix = z := ⟨_, rfl⟩
  have HN1 := Lib.hid (show 1 ≤ num by omega)
  have HNU := Lib.hid (fun W => number_any th ix W)
  rw [hnu] at HNU
  have HE := Lib.hid hnu
  have M1 := Lib.hid (fun W => mod8_any x W hx.1 hx.2)
  have M2 := Lib.hid (fun W => mod16_any y W hy.1 hy.2)
  rw [hth] at M1
  rw [hix] at M2
  clear hth hix hnum hnu hx hy
  obtain ⟨W0, hW0⟩ : ∃ W, w.alloc (.cells #[c0, c1, c2, c3, c4, c5, c6, c7] 32) = W := ⟨_, rfl⟩
  have HB0 := Lib.hid (show Below w.heap.size w W0 by rw [← hW0]; exact (Below.refl _ _).alloc (Nat.le_refl _) _)
  have HZ0 := Lib.hid (show W0.heap.size = w.heap.size + 1 by rw [← hW0]; simp)
  have HX0 := Lib.hid (show W0.heap[w.heap.size]? = some (.cells #[c0, c1, c2, c3, c4, c5, c6, c7] 32 (0, 0)) by rw [← hW0]; exact heap_alloc_at w _)
  have HW0 := Lib.hid hW0
  clear hW0
  go_enter Tryz.func4, Tryz.ntmps4
  go_wp2_with fail
  rw [HW0.out]
  refine (arenaNew_any W0).mono ?_
  rintro e w1 ⟨rfl, ha, hb, hz⟩
  have hfr : Fresh W0.heap.size W0 (newGhost W0.heap.size) w1 := ⟨Keep.below hb _, fun k hk => by
    have := ha.foot k hk
    have : k = W0.heap.size := this
    omega, hb.size⟩
  have A1 := Lib.hid ha; have R1 := Lib.hid hfr
  clear ha hb hfr hz
  go_wp2_with fail
  refine (handleNew_any (newGhost W0.heap.size) w1 {} 7 A1.out (Fin.zero _ (by decide))).mono ?_
  rintro e w2 ⟨rfl, vn2, vc2, N2, ha, ht, hs⟩
  have ea0 : Ct.createC {} = a0 := by unfold a0; rfl
  rw [ea0] at ha ht
  have A2 := Lib.hid ha; have T2 := Lib.hid ht; have R2 := Lib.hid (R1.out.step hs)
  have HZ := Lib.hid R1.out.size
  have HX2 := Lib.hid ((R2.out.keep.block w.heap.size (by have := HZ0.out; omega) (by have := HZ0.out; omega)).trans HX0.out)
  clear ha ht hs ea0
  go_wp2_with fail
  refine (M1.out _).mono ?_
  rintro e w' ⟨rfl, rfl⟩
  go_wp2_with fail
  refine (M2.out _).mono ?_
  rintro e w' ⟨rfl, rfl⟩
  go_wp2_with fail
  obtain ⟨W3, hW3⟩ : ∃ W, w2.alloc (.cells #[.int .i64 8, .int .i64 0, .string ⟨#[]⟩, .int .u64 0, .int .u64 0] 38) = W := ⟨_, rfl⟩
  have HB3 := Lib.hid (show Below w2.heap.size w2 W3 by rw [← hW3]; exact (Below.refl _ _).alloc (Nat.le_refl _) _)
  have HO3 := Lib.hid (show W3.heap[w2.heap.size]? = some (.cells #[.int .i64 8, .int .i64 0, .string ⟨#[]⟩, .int .u64 0, .int .u64 0] 38 (0, 0)) by rw [← hW3]; exact heap_alloc_at w2 _)
  rw [hW3]
  clear hW3
  have lt0 := (Array.getElem?_eq_some_iff.1 HX2.out).1
  have LT0 := Lib.hid lt0
  have HX3 := Lib.hid ((HB3.out.block _ lt0).trans HX2.out)
  have k0 := cell_at HX3.out 0; have k1 := cell_at HX3.out 1; have k2 := cell_at HX3.out 2; have k3 := cell_at HX3.out 3; have k4 := cell_at HX3.out 4; have k5 := cell_at HX3.out 5; have k6 := cell_at HX3.out 6; have k7 := cell_at HX3.out 7
  simp only [List.getElem?_toArray, List.getElem?_cons_zero, List.getElem?_cons_succ] at k0 k1 k2 k3 k4 k5 k6 k7
  have A3 := Lib.hid (A2.out.below HB3.out); have T3 := Lib.hid (T2.out.below HB3.out); have R3 := Lib.hid (R2.out.below HB3.out)
  clear lt0
  refine (HNU.out _).mono ?_
  rintro e w' ⟨rfl, rfl⟩
  go_wp2_with fail
  refine (finish_unknown _ W3 _ _ _ _ _ _ th ix c0 c1 c2 c3 c4 c5 c6 c7 T3.out rfl).mono ?_
  rintro e w4 ⟨rfl, hb4⟩
  obtain ⟨RR, hRR⟩ : ∃ RR, (resCells {}).toArray = RR := ⟨_, rfl⟩
  have hcmp : ∀ W, (binOp BinOp.neq 32 (.agg RR) (.agg #[.int .i64 0, .bool false, .int .u64 0, .string ⟨#[]⟩, .int .i64 0, .int .i64 0, .int .i64 0, .bool false])).run Tryz.prog W = .ok (.bool false) W := by
    rw [← hRR]; exact cmp_zero
  rw [hRR]
  have HB4 := Lib.hid hb4
  have A4 := Lib.hid (A3.out.below hb4); have T4 := Lib.hid (T3.out.below hb4); have R4 := Lib.hid (R3.out.below hb4)
  have HO4 := Lib.hid ((hb4.block _ (Array.getElem?_eq_some_iff.1 HO3.out).1).trans HO3.out)
  have o0 := cell_at HO4.out 0; have o1 := cell_at HO4.out 1; have o2 := cell_at HO4.out 2; have o3 := cell_at HO4.out 3; have o4 := cell_at HO4.out 4
  simp only [List.getElem?_toArray, List.getElem?_cons_zero, List.getElem?_cons_succ] at o0 o1 o2 o3 o4
  clear hRR hb4 k0 k1 k2 k3 k4 k5 k6 k7
  go_wp2_with fail
  refine (begin_snapshot _ w4 a0.2 _ _ _ _ 7 _ th ix 0 ⟨#[]⟩ 0 0 a0.1 A4.out T4.out (a0_fin.less (by decide)) (by rw [HE.out]; have := HN1.out; omega) rfl rfl).mono ?_
  rintro e w5 ⟨tb, vn5, vc5, N5, rfl, htb, ha, ht, htk, hs⟩
  rw [HE.out] at ht
  have ea1 : Ct.apply Ct.stOps (.snap0 a0.1) 0 a0.2 = b1 := by unfold b1; rfl
  rw [ea1] at ha htk
  have hrun := run_any tb _ w5 b1.2 b1.1 0 20 ha htk b1_wt b1_rank (b1_fin.less (by decide)) (by decide)
  unfold RunRes at hrun
  rw [b2_eq] at hrun
  have HRUN := Lib.hid hrun
  have T5 := Lib.hid ht; have R5 := Lib.hid (R4.out.stepF hs (fun k e => by have := HZ.out; omega))
  have L3 := Lib.hid (show w1.heap.size + 3 < w4.heap.size from T4.out.lt); have L3' := Lib.hid (show w1.heap.size + 2 < w4.heap.size from T4.out.iters.lt)
  have TB := Lib.hid htb
  clear ha ht htk hs hrun htb ea1 o0 o1 o2 o3 o4 hcmp
  go_wp2_with fail
  refine HRUN.out.mono ?_
  rintro e w6 ⟨rfl, vn6, vc6, N6, ha, hs, htk⟩
  have T6 := Lib.hid (T5.out.stepT hs ⟨by have := TB.out; have := L3.out; omega, by have := TB.out; have := L3.out; omega, by have := TB.out; have := L3.out; omega, by have := TB.out; have := L3'.out; omega⟩)
  have R6 := Lib.hid (R5.out.stepT hs (by have := TB.out; have := R4.out.size; omega))
  have A6 := Lib.hid ha; have K6 := Lib.hid htk
  clear ha hs htk
  go_wp2_with fail
  refine (trie_none _ w6 _ _ _ _ 7 _ num T6.out (look_none HN1.out)).mono ?_
  rintro e w7 ⟨rfl, hb7⟩
  have HB7 := Lib.hid hb7
  clear hb7
  go_wp2_with fail
  obtain ⟨W7, hW7⟩ : ∃ W, w7.alloc (.cells #[.int .i64 0, .bool false] 30) = W := ⟨_, rfl⟩
  have HB7' := Lib.hid (bstep HB7.out HB7.out.size (show Below w7.heap.size w7 W7 by rw [← hW7]; exact (Below.refl _ _).alloc (Nat.le_refl _) _))
  rw [hW7]
  clear hW7
  have A7 := Lib.hid (A6.out.below HB7'.out); have T7 := Lib.hid (T6.out.below HB7'.out); have R7 := Lib.hid (R6.out.below HB7'.out); have K7 := Lib.hid (K6.out.below HB7'.out)
  refine (result_done W7 tb _ _ _ K7.out).mono ?_
  rintro e w8 ⟨rfl, hb8⟩
  have A8 := Lib.hid (A7.out.below hb8); have T8 := Lib.hid (T7.out.below hb8); have R8 := Lib.hid (R7.out.below hb8); have K8 := Lib.hid (K7.out.below hb8)
  clear hb8
  go_wp2_with fail
  refine (finish_snapshot _ w8 b2.2.2 _ _ _ _ 7 _ th ix a0.1 { root := 7, readOnly := false } true 0 .empty 0 0 A8.out T8.out (by rw [HE.out]; exact look_ops)).mono ?_
  rintro e w9 ⟨rfl, ha, ht, hk⟩
  rw [HE.out] at ht
  have eR : (resCells { found := true, value := 0, key := .empty, count := 0 }).toArray = #[.int .i64 0, .bool true, .int .u64 0, .string ⟨#[]⟩, .int .i64 0, .int .i64 0, .int .i64 0, .bool false] := rfl
  rw [eR]
  have T9 := Lib.hid ht; have R9 := Lib.hid (R8.out.more hk (fun k e => .inl (by have := HZ.out; omega)) (Nat.le_refl _))
  have K9 := Lib.hid (K8.out.mv (g' := ⟨(newGhost W0.heap.size).a, vn6, vc6, N6⟩) hk (by have := TB.out; have := L3.out; omega) (fun k e => by rcases e with e | e <;> subst e; exact .inl T8.out.inN.2.1; exact .inl T8.out.inN.2.2.1) rfl (fun _ h => .inl h) (fun _ h => h) (fun _ h => .inl h))
  clear ha ht hk eR
  go_wp2_with fail
  obtain ⟨W9, hW9⟩ : ∃ W, w9.alloc (.cells #[.int .i64 0, .bool true, .int .u64 0, .string ⟨#[]⟩, .int .i64 0, .int .i64 0, .int .i64 0, .bool false] 32) = W := ⟨_, rfl⟩
  have HB9 := Lib.hid (show Below w9.heap.size w9 W9 by rw [← hW9]; exact (Below.refl _ _).alloc (Nat.le_refl _) _)
  have HG9 := Lib.hid (show W9.heap[w9.heap.size]? = some (.cells #[.int .i64 0, .bool true, .int .u64 0, .string ⟨#[]⟩, .int .i64 0, .int .i64 0, .int .i64 0, .bool false] 32 (0, 0)) by rw [← hW9]; exact heap_alloc_at w9 _)
  rw [hW9]
  clear hW9
  have T9' := Lib.hid (T9.out.below HB9.out); have R9' := Lib.hid (R9.out.below HB9.out); have K9' := Lib.hid (K9.out.below HB9.out)
  refine (trie_some _ W9 _ _ _ _ 7 _ num { root := 7, readOnly := false } T9'.out (look_tries HN1.out)).mono ?_
  rintro e w10 ⟨rfl, hb10⟩
  have HG10 := Lib.hid (after_below hb10 HG9.out)
  have T10 := Lib.hid (T9'.out.below hb10); have R10 := Lib.hid (R9'.out.below hb10); have K10 := Lib.hid (K9'.out.below hb10)
  have HX10 := Lib.hid ((R10.out.keep.block w.heap.size (by have := HZ0.out; omega) (by have := HZ0.out; omega)).trans HX0.out)
  have k0 : ∀ o, (w10.alloc o).cell? ⟨w.heap.size, 0, none⟩ = some c0 := fun o => cell_at (heap_alloc_of HX10.out o) 0
  have k1 : ∀ o, (w10.alloc o).cell? ⟨w.heap.size, 1, none⟩ = some c1 := fun o => cell_at (heap_alloc_of HX10.out o) 1
  have k2 : ∀ o, (w10.alloc o).cell? ⟨w.heap.size, 2, none⟩ = some c2 := fun o => cell_at (heap_alloc_of HX10.out o) 2
  have k3 : ∀ o, (w10.alloc o).cell? ⟨w.heap.size, 3, none⟩ = some c3 := fun o => cell_at (heap_alloc_of HX10.out o) 3
  have k4 : ∀ o, (w10.alloc o).cell? ⟨w.heap.size, 4, none⟩ = some c4 := fun o => cell_at (heap_alloc_of HX10.out o) 4
  have k5 : ∀ o, (w10.alloc o).cell? ⟨w.heap.size, 5, none⟩ = some c5 := fun o => cell_at (heap_alloc_of HX10.out o) 5
  have k6 : ∀ o, (w10.alloc o).cell? ⟨w.heap.size, 6, none⟩ = some c6 := fun o => cell_at (heap_alloc_of HX10.out o) 6
  have k7 : ∀ o, (w10.alloc o).cell? ⟨w.heap.size, 7, none⟩ = some c7 := fun o => cell_at (heap_alloc_of HX10.out o) 7
  clear hb10
  go_wp2_with fail
  obtain ⟨W10, hW10⟩ : ∃ W, w10.alloc (.cells #[.int .i64 7, .bool false] 30) = W := ⟨_, rfl⟩
  have HB10 := Lib.hid (show Below w10.heap.size w10 W10 by rw [← hW10]; exact (Below.refl _ _).alloc (Nat.le_refl _) _)
  have HH10 := Lib.hid (show W10.heap[w10.heap.size]? = some (.cells #[.int .i64 7, .bool false] 30 (0, 0)) by rw [← hW10]; exact heap_alloc_at w10 _)
  rw [hW10]
  clear hW10 k0 k1 k2 k3 k4 k5 k6 k7
  have T10' := Lib.hid (T10.out.below HB10.out)
  refine (finish_again _ W10 _ _ _ _ 7 _ th ix 8 a0.1 c0 c1 c2 c3 c4 c5 c6 c7 T10'.out (by rw [HE.out]; exact look_again)).mono ?_
  rintro e w11 ⟨rfl, hb11⟩
  have HB11 := Lib.hid (bstep HB10.out HB10.out.size hb11)
  have HG11 := Lib.hid (after_below HB11.out HG10.out); have HH11 := Lib.hid (after_below hb11 HH10.out)
  have T11 := Lib.hid (T10.out.below HB11.out); have R11 := Lib.hid (R10.out.below HB11.out); have K11 := Lib.hid (K10.out.below HB11.out)
  have eZ : (resCells {}).toArray = #[.int .i64 0, .bool false, .int .u64 0, .string ⟨#[]⟩, .int .i64 0, .int .i64 0, .int .i64 0, .bool false] := rfl
  rw [eZ]
  clear hb11 eZ
  go_wp2_with fail
  obtain ⟨W11, hW11⟩ : ∃ W, w11.alloc (.cells #[.int .i64 0, .bool false, .int .u64 0, .string ⟨#[]⟩, .int .i64 0, .int .i64 0, .int .i64 0, .bool false] 32) = W := ⟨_, rfl⟩
  have HBB := Lib.hid (show Below w11.heap.size w11 W11 by rw [← hW11]; exact (Below.refl _ _).alloc (Nat.le_refl _) _)
  have HJ11 := Lib.hid (show W11.heap[w11.heap.size]? = some (.cells #[.int .i64 0, .bool false, .int .u64 0, .string ⟨#[]⟩, .int .i64 0, .int .i64 0, .int .i64 0, .bool false] 32 (0, 0)) by rw [← hW11]; exact heap_alloc_at w11 _)
  rw [hW11]
  clear hW11
  refine (trie_some _ W11 _ _ _ _ 7 _ num { root := 7, readOnly := false } (T11.out.below HBB.out) (look_tries HN1.out)).mono ?_
  rintro e w12 ⟨rfl, hb12⟩
  have HB12 := Lib.hid (bstep HBB.out HBB.out.size hb12)
  have HG12 := Lib.hid (after_below HB12.out HG11.out); have HH12 := Lib.hid (after_below HB12.out HH11.out); have HJ12 := Lib.hid (after_below hb12 HJ11.out)
  have R12 := Lib.hid (R11.out.below HB12.out); have K12 := Lib.hid (K11.out.below HB12.out)
  clear hb12
  go_wp2_with fail
  obtain ⟨W12, hW12⟩ : ∃ W, w12.alloc (.cells #[.int .i64 7, .bool false] 30) = W := ⟨_, rfl⟩
  have HBC := Lib.hid (show Below w12.heap.size w12 W12 by rw [← hW12]; exact (Below.refl _ _).alloc (Nat.le_refl _) _)
  have HL13 := Lib.hid (show W12.heap[w12.heap.size]? = some (.cells #[.int .i64 7, .bool false] 30 (0, 0)) by rw [← hW12]; exact heap_alloc_at w12 _)
  have HG13 := Lib.hid (after_below HBC.out HG12.out); have HH13 := Lib.hid (after_below HBC.out HH12.out); have HJ13 := Lib.hid (after_below HBC.out HJ12.out)
  have R13 := Lib.hid (R12.out.below HBC.out); have K13 := Lib.hid (K12.out.below HBC.out)
  refine code_world hW12 ?_
  clear hW12
  have HS : Hid (∀ W', Below W12.heap.size W12 W' → (W'.cell? ⟨w9.heap.size, 0, none⟩ = some (.int .i64 0) ∧ W'.cell? ⟨w9.heap.size, 1, none⟩ = some (.bool true) ∧ W'.cell? ⟨w9.heap.size, 2, none⟩ = some (.int .u64 0) ∧ W'.cell? ⟨w9.heap.size, 3, none⟩ = some (.string ⟨#[]⟩) ∧ W'.cell? ⟨w9.heap.size, 4, none⟩ = some (.int .i64 0) ∧ W'.cell? ⟨w9.heap.size, 5, none⟩ = some (.int .i64 0) ∧ W'.cell? ⟨w9.heap.size, 6, none⟩ = some (.int .i64 0) ∧ W'.cell? ⟨w9.heap.size, 7, none⟩ = some (.bool false) ∧ W'.cell? ⟨w10.heap.size, 0, none⟩ = some (.int .i64 7) ∧ W'.cell? ⟨w10.heap.size, 1, none⟩ = some (.bool false) ∧ W'.cell? ⟨w11.heap.size, 0, none⟩ = some (.int .i64 0) ∧ W'.cell? ⟨w11.heap.size, 1, none⟩ = some (.bool false) ∧ W'.cell? ⟨w11.heap.size, 2, none⟩ = some (.int .u64 0) ∧ W'.cell? ⟨w11.heap.size, 3, none⟩ = some (.string ⟨#[]⟩) ∧ W'.cell? ⟨w11.heap.size, 4, none⟩ = some (.int .i64 0) ∧ W'.cell? ⟨w11.heap.size, 5, none⟩ = some (.int .i64 0) ∧ W'.cell? ⟨w11.heap.size, 6, none⟩ = some (.int .i64 0) ∧ W'.cell? ⟨w11.heap.size, 7, none⟩ = some (.bool false) ∧ W'.cell? ⟨w12.heap.size, 0, none⟩ = some (.int .i64 7) ∧ W'.cell? ⟨w12.heap.size, 1, none⟩ = some (.bool false) ∧ Below W12.heap.size W12 W')) := fun W' hq => ⟨cell_at (after_below hq HG13.out) 0, cell_at (after_below hq HG13.out) 1, cell_at (after_below hq HG13.out) 2, cell_at (after_below hq HG13.out) 3, cell_at (after_below hq HG13.out) 4, cell_at (after_below hq HG13.out) 5, cell_at (after_below hq HG13.out) 6, cell_at (after_below hq HG13.out) 7, cell_at (after_below hq HH13.out) 0, cell_at (after_below hq HH13.out) 1, cell_at (after_below hq HJ13.out) 0, cell_at (after_below hq HJ13.out) 1, cell_at (after_below hq HJ13.out) 2, cell_at (after_below hq HJ13.out) 3, cell_at (after_below hq HJ13.out) 4, cell_at (after_below hq HJ13.out) 5, cell_at (after_below hq HJ13.out) 6, cell_at (after_below hq HJ13.out) 7, cell_at (after_below hq HL13.out) 0, cell_at (after_below hq HL13.out) 1, hq⟩
  have AW := Lib.hid awake_any
  refine wp_region_held_drew (S := fun W' => W'.cell? ⟨w9.heap.size, 0, none⟩ = some (.int .i64 0) ∧ W'.cell? ⟨w9.heap.size, 1, none⟩ = some (.bool true) ∧ W'.cell? ⟨w9.heap.size, 2, none⟩ = some (.int .u64 0) ∧ W'.cell? ⟨w9.heap.size, 3, none⟩ = some (.string ⟨#[]⟩) ∧ W'.cell? ⟨w9.heap.size, 4, none⟩ = some (.int .i64 0) ∧ W'.cell? ⟨w9.heap.size, 5, none⟩ = some (.int .i64 0) ∧ W'.cell? ⟨w9.heap.size, 6, none⟩ = some (.int .i64 0) ∧ W'.cell? ⟨w9.heap.size, 7, none⟩ = some (.bool false) ∧ W'.cell? ⟨w10.heap.size, 0, none⟩ = some (.int .i64 7) ∧ W'.cell? ⟨w10.heap.size, 1, none⟩ = some (.bool false) ∧ W'.cell? ⟨w11.heap.size, 0, none⟩ = some (.int .i64 0) ∧ W'.cell? ⟨w11.heap.size, 1, none⟩ = some (.bool false) ∧ W'.cell? ⟨w11.heap.size, 2, none⟩ = some (.int .u64 0) ∧ W'.cell? ⟨w11.heap.size, 3, none⟩ = some (.string ⟨#[]⟩) ∧ W'.cell? ⟨w11.heap.size, 4, none⟩ = some (.int .i64 0) ∧ W'.cell? ⟨w11.heap.size, 5, none⟩ = some (.int .i64 0) ∧ W'.cell? ⟨w11.heap.size, 6, none⟩ = some (.int .i64 0) ∧ W'.cell? ⟨w11.heap.size, 7, none⟩ = some (.bool false) ∧ W'.cell? ⟨w12.heap.size, 0, none⟩ = some (.int .i64 7) ∧ W'.cell? ⟨w12.heap.size, 1, none⟩ = some (.bool false) ∧ Below W12.heap.size W12 W') (by kernel_rfl) (HS.out _ (Below.drewed W12)) (fun hS => ?_)
  refine wpAnyH_ready (rs := [0]) (by kernel_rfl) (by simp) ?_
  refine AllReadyH.cons (o := { dst := (some 85), op := (Op.call { callee := (Callee.value (Operand.func 6)), args := #[], argTypes := #[] }), type := 4, pos := "law.go:188", after := #[], guard := none }) rfl (fun K hK => ?_) AllReadyH.nil
  go_simp
  refine (AW.out _).mono ?_
  rintro e w13 ⟨rfl, hb13⟩
  have HB13 := Lib.hid (bstep (Below.drewed W12) (Nat.le_refl _) hb13)
  clear hb13
  go_simp
  refine hK.out _ _ (HS.out _ HB13.out) (fun hS => ?_)
  clear hK K
  (try simp only [Act.put, List.setIfInBounds_toArray, List.set_cons_zero, List.set_cons_succ])
  refine wpAnyH_take (i := 1) (oi := { dst := (some 86), op := (Op.move (Operand.tmp 85)), type := 4, pos := "law.go:188", after := #[{ on := 0, ground := Ground.data }, { on := 0, ground := Ground.chain }], guard := none }) (v := .bool true) rfl (by kernel_rfl) (by kernel_rfl) (by kernel_rfl) (fun _ _ _ h => h) (Or.inl ⟨by rfl, fun W' hW => ?_⟩) hS ?_
  · go_simp
  (try simp only [Act.put, List.setIfInBounds_toArray, List.set_cons_zero, List.set_cons_succ])
  refine wpAnyH_take (i := 2) (oi := { dst := (some 87), op := (Op.move (Operand.tmp 15)), type := 4, pos := "law.go:188", after := #[{ on := 1, ground := Ground.guard }], guard := (some (1, true)) }) (v := .bool false) rfl (by kernel_rfl) (by kernel_rfl) (by kernel_rfl) (fun _ _ _ h => h) (Or.inl ⟨by rfl, fun W' hW => ?_⟩) hS ?_
  · go_simp
  (try simp only [Act.put, List.setIfInBounds_toArray, List.set_cons_zero, List.set_cons_succ])
  refine wpAnyH_take (i := 3) (oi := { dst := (some 88), op := (Op.unOp UnOp.not 4 (Operand.tmp 87)), type := 4, pos := "law.go:188", after := #[{ on := 2, ground := Ground.data }, { on := 1, ground := Ground.guard }], guard := (some (1, true)) }) (v := .bool true) rfl (by kernel_rfl) (by kernel_rfl) (by kernel_rfl) (fun _ _ _ h => h) (Or.inl ⟨by rfl, fun W' hW => ?_⟩) hS ?_
  · go_simp
  (try simp only [Act.put, List.setIfInBounds_toArray, List.set_cons_zero, List.set_cons_succ])
  refine wpAnyH_take (i := 4) (oi := { dst := (some 89), op := (Op.pick (Operand.tmp 86) (Operand.tmp 88) (Operand.const (Value.bool false))), type := 4, pos := "law.go:188", after := #[{ on := 1, ground := Ground.data }, { on := 3, ground := Ground.data }], guard := none }) (v := .bool true) rfl (by kernel_rfl) (by kernel_rfl) (by kernel_rfl) (fun _ _ _ h => h) (Or.inl ⟨by rfl, fun W' hW => ?_⟩) hS ?_
  · go_simp
  (try simp only [Act.put, List.setIfInBounds_toArray, List.set_cons_zero, List.set_cons_succ])
  refine wpAnyH_take (i := 5) (oi := { dst := (some 90), op := (Op.move (Operand.tmp 89)), type := 4, pos := "law.go:188", after := #[{ on := 4, ground := Ground.data }, { on := 1, ground := Ground.chain }], guard := none }) (v := .bool true) rfl (by kernel_rfl) (by kernel_rfl) (by kernel_rfl) (fun _ _ _ h => h) (Or.inl ⟨by rfl, fun W' hW => ?_⟩) hS ?_
  · go_simp
  (try simp only [Act.put, List.setIfInBounds_toArray, List.set_cons_zero, List.set_cons_succ])
  refine wpAnyH_take (i := 6) (oi := { dst := (some 91), op := (Op.load 32 (Operand.tmp 16)), type := 32, pos := "law.go:188", after := #[{ on := 5, ground := Ground.guard }], guard := (some (5, true)) }) (v := .agg #[.int .i64 0, .bool true, .int .u64 0, .string ⟨#[]⟩, .int .i64 0, .int .i64 0, .int .i64 0, .bool false]) rfl (by kernel_rfl) (by kernel_rfl) (by kernel_rfl) (fun _ _ _ h => h) (Or.inl ⟨by rfl, fun W' hW => ?_⟩) hS ?_
  · go_simp
  (try simp only [Act.put, List.setIfInBounds_toArray, List.set_cons_zero, List.set_cons_succ])
  refine wpAnyH_take (i := 7) (oi := { dst := (some 92), op := (Op.build 32 #[(1, (Operand.const (Value.bool true)))]), type := 32, pos := "law.go:188", after := #[{ on := 5, ground := Ground.guard }], guard := (some (5, true)) }) (v := .agg #[.int .i64 0, .bool true, .int .u64 0, .string ⟨#[]⟩, .int .i64 0, .int .i64 0, .int .i64 0, .bool false]) rfl (by kernel_rfl) (by kernel_rfl) (by kernel_rfl) (fun _ _ _ h => h) (Or.inl ⟨by rfl, fun W' hW => ?_⟩) hS ?_
  · go_simp
  (try simp only [Act.put, List.setIfInBounds_toArray, List.set_cons_zero, List.set_cons_succ])
  refine wpAnyH_take (i := 8) (oi := { dst := (some 93), op := (Op.binOp BinOp.eql 32 (Operand.tmp 91) (Operand.tmp 92) 32), type := 4, pos := "law.go:188", after := #[{ on := 6, ground := Ground.data }, { on := 7, ground := Ground.data }, { on := 5, ground := Ground.guard }], guard := (some (5, true)) }) (v := .bool true) rfl (by kernel_rfl) (by kernel_rfl) (by kernel_rfl) (fun _ _ _ h => h) (Or.inl ⟨by rfl, fun W' hW => ?_⟩) hS ?_
  · kernel_rfl
  (try simp only [Act.put, List.setIfInBounds_toArray, List.set_cons_zero, List.set_cons_succ])
  refine wpAnyH_take (i := 9) (oi := { dst := (some 94), op := (Op.pick (Operand.tmp 90) (Operand.tmp 93) (Operand.const (Value.bool false))), type := 4, pos := "law.go:188", after := #[{ on := 5, ground := Ground.data }, { on := 8, ground := Ground.data }], guard := none }) (v := .bool true) rfl (by kernel_rfl) (by kernel_rfl) (by kernel_rfl) (fun _ _ _ h => h) (Or.inl ⟨by rfl, fun W' hW => ?_⟩) hS ?_
  · go_simp
  (try simp only [Act.put, List.setIfInBounds_toArray, List.set_cons_zero, List.set_cons_succ])
  refine wpAnyH_take (i := 10) (oi := { dst := (some 95), op := (Op.move (Operand.tmp 94)), type := 4, pos := "law.go:188", after := #[{ on := 9, ground := Ground.data }, { on := 5, ground := Ground.chain }], guard := none }) (v := .bool true) rfl (by kernel_rfl) (by kernel_rfl) (by kernel_rfl) (fun _ _ _ h => h) (Or.inl ⟨by rfl, fun W' hW => ?_⟩) hS ?_
  · go_simp
  (try simp only [Act.put, List.setIfInBounds_toArray, List.set_cons_zero, List.set_cons_succ])
  refine wpAnyH_take (i := 11) (oi := { dst := (some 96), op := (Op.move (Operand.tmp 18)), type := 4, pos := "law.go:188", after := #[{ on := 10, ground := Ground.guard }], guard := (some (10, true)) }) (v := .bool true) rfl (by kernel_rfl) (by kernel_rfl) (by kernel_rfl) (fun _ _ _ h => h) (Or.inl ⟨by rfl, fun W' hW => ?_⟩) hS ?_
  · go_simp
  (try simp only [Act.put, List.setIfInBounds_toArray, List.set_cons_zero, List.set_cons_succ])
  refine wpAnyH_take (i := 12) (oi := { dst := (some 97), op := (Op.pick (Operand.tmp 95) (Operand.tmp 96) (Operand.const (Value.bool false))), type := 4, pos := "law.go:188", after := #[{ on := 10, ground := Ground.data }, { on := 11, ground := Ground.data }], guard := none }) (v := .bool true) rfl (by kernel_rfl) (by kernel_rfl) (by kernel_rfl) (fun _ _ _ h => h) (Or.inl ⟨by rfl, fun W' hW => ?_⟩) hS ?_
  · go_simp
  (try simp only [Act.put, List.setIfInBounds_toArray, List.set_cons_zero, List.set_cons_succ])
  refine wpAnyH_take (i := 13) (oi := { dst := (some 98), op := (Op.move (Operand.tmp 97)), type := 4, pos := "law.go:188", after := #[{ on := 12, ground := Ground.data }, { on := 10, ground := Ground.chain }], guard := none }) (v := .bool true) rfl (by kernel_rfl) (by kernel_rfl) (by kernel_rfl) (fun _ _ _ h => h) (Or.inl ⟨by rfl, fun W' hW => ?_⟩) hS ?_
  · go_simp
  (try simp only [Act.put, List.setIfInBounds_toArray, List.set_cons_zero, List.set_cons_succ])
  refine wpAnyH_take (i := 14) (oi := { dst := (some 99), op := (Op.move (Operand.tmp 21)), type := 4, pos := "law.go:188", after := #[{ on := 13, ground := Ground.guard }], guard := (some (13, true)) }) (v := .bool true) rfl (by kernel_rfl) (by kernel_rfl) (by kernel_rfl) (fun _ _ _ h => h) (Or.inl ⟨by rfl, fun W' hW => ?_⟩) hS ?_
  · go_simp
  (try simp only [Act.put, List.setIfInBounds_toArray, List.set_cons_zero, List.set_cons_succ])
  refine wpAnyH_take (i := 15) (oi := { dst := (some 100), op := (Op.pick (Operand.tmp 98) (Operand.tmp 99) (Operand.const (Value.bool false))), type := 4, pos := "law.go:188", after := #[{ on := 13, ground := Ground.data }, { on := 14, ground := Ground.data }], guard := none }) (v := .bool true) rfl (by kernel_rfl) (by kernel_rfl) (by kernel_rfl) (fun _ _ _ h => h) (Or.inl ⟨by rfl, fun W' hW => ?_⟩) hS ?_
  · go_simp
  (try simp only [Act.put, List.setIfInBounds_toArray, List.set_cons_zero, List.set_cons_succ])
  refine wpAnyH_take (i := 16) (oi := { dst := (some 101), op := (Op.move (Operand.tmp 100)), type := 4, pos := "law.go:188", after := #[{ on := 15, ground := Ground.data }, { on := 13, ground := Ground.chain }], guard := none }) (v := .bool true) rfl (by kernel_rfl) (by kernel_rfl) (by kernel_rfl) (fun _ _ _ h => h) (Or.inl ⟨by rfl, fun W' hW => ?_⟩) hS ?_
  · go_simp
  (try simp only [Act.put, List.setIfInBounds_toArray, List.set_cons_zero, List.set_cons_succ])
  refine wpAnyH_take (i := 17) (oi := { dst := (some 102), op := (Op.load 30 (Operand.tmp 17)), type := 30, pos := "law.go:188", after := #[{ on := 16, ground := Ground.guard }], guard := (some (16, true)) }) (v := .agg #[.int .i64 7, .bool false]) rfl (by kernel_rfl) (by kernel_rfl) (by kernel_rfl) (fun _ _ _ h => h) (Or.inl ⟨by rfl, fun W' hW => ?_⟩) hS ?_
  · go_simp
  (try simp only [Act.put, List.setIfInBounds_toArray, List.set_cons_zero, List.set_cons_succ])
  refine wpAnyH_take (i := 18) (oi := { dst := (some 103), op := (Op.load 30 (Operand.tmp 20)), type := 30, pos := "law.go:188", after := #[{ on := 16, ground := Ground.guard }], guard := (some (16, true)) }) (v := .agg #[.int .i64 7, .bool false]) rfl (by kernel_rfl) (by kernel_rfl) (by kernel_rfl) (fun _ _ _ h => h) (Or.inl ⟨by rfl, fun W' hW => ?_⟩) hS ?_
  · go_simp
  (try simp only [Act.put, List.setIfInBounds_toArray, List.set_cons_zero, List.set_cons_succ])
  refine wpAnyH_take (i := 19) (oi := { dst := (some 104), op := (Op.binOp BinOp.eql 30 (Operand.tmp 102) (Operand.tmp 103) 30), type := 4, pos := "law.go:188", after := #[{ on := 17, ground := Ground.data }, { on := 18, ground := Ground.data }, { on := 16, ground := Ground.guard }], guard := (some (16, true)) }) (v := .bool true) rfl (by kernel_rfl) (by kernel_rfl) (by kernel_rfl) (fun _ _ _ h => h) (Or.inl ⟨by rfl, fun W' hW => ?_⟩) hS ?_
  · kernel_rfl
  (try simp only [Act.put, List.setIfInBounds_toArray, List.set_cons_zero, List.set_cons_succ])
  refine wpAnyH_take (i := 20) (oi := { dst := (some 105), op := (Op.pick (Operand.tmp 101) (Operand.tmp 104) (Operand.const (Value.bool false))), type := 4, pos := "law.go:188", after := #[{ on := 16, ground := Ground.data }, { on := 19, ground := Ground.data }], guard := none }) (v := .bool true) rfl (by kernel_rfl) (by kernel_rfl) (by kernel_rfl) (fun _ _ _ h => h) (Or.inl ⟨by rfl, fun W' hW => ?_⟩) hS ?_
  · go_simp
  (try simp only [Act.put, List.setIfInBounds_toArray, List.set_cons_zero, List.set_cons_succ])
  refine wpAnyH_take (i := 21) (oi := { dst := (some 106), op := (Op.move (Operand.tmp 105)), type := 4, pos := "law.go:188", after := #[{ on := 20, ground := Ground.data }, { on := 16, ground := Ground.chain }], guard := none }) (v := .bool true) rfl (by kernel_rfl) (by kernel_rfl) (by kernel_rfl) (fun _ _ _ h => h) (Or.inl ⟨by rfl, fun W' hW => ?_⟩) hS ?_
  · go_simp
  (try simp only [Act.put, List.setIfInBounds_toArray, List.set_cons_zero, List.set_cons_succ])
  refine wpAnyH_take (i := 22) (oi := { dst := (some 107), op := (Op.load 30 (Operand.tmp 17)), type := 30, pos := "law.go:188", after := #[{ on := 21, ground := Ground.guard }], guard := (some (21, true)) }) (v := .agg #[.int .i64 7, .bool false]) rfl (by kernel_rfl) (by kernel_rfl) (by kernel_rfl) (fun _ _ _ h => h) (Or.inl ⟨by rfl, fun W' hW => ?_⟩) hS ?_
  · go_simp
  (try simp only [Act.put, List.setIfInBounds_toArray, List.set_cons_zero, List.set_cons_succ])
  refine wpAnyH_take (i := 23) (oi := { dst := (some 108), op := (Op.move (Operand.tmp 13)), type := 40, pos := "law.go:188", after := #[{ on := 21, ground := Ground.guard }], guard := (some (21, true)) }) (v := .pointer (some ⟨tb, 0, none⟩)) rfl (by kernel_rfl) (by kernel_rfl) (by kernel_rfl) (fun _ _ _ h => h) (Or.inl ⟨by rfl, fun W' hW => ?_⟩) hS ?_
  · go_simp
  (try simp only [Act.put, List.setIfInBounds_toArray, List.set_cons_zero, List.set_cons_succ])
  refine wpAnyH_ready (rs := [24]) (by kernel_rfl) (by simp) ?_
  refine AllReadyH.cons (o := { dst := (some 109), op := (Op.call { callee := (Callee.value (Operand.func 15)), args := #[(Operand.tmp 108)], argTypes := #[40] }), type := 32, pos := "law.go:188", after := #[{ on := 23, ground := Ground.data }, { on := 21, ground := Ground.chain }, { on := 21, ground := Ground.guard }], guard := (some (21, true)) }) rfl (fun K hK => ?_) AllReadyH.nil
  go_simp
  refine (result_done _ tb _ _ _ (K13.out.below HB13.out)).mono ?_
  rintro e w14 ⟨rfl, hb14⟩
  have HB14 := Lib.hid (bstep HB13.out HB13.out.size hb14)
  clear hb14
  have eD : (resCells { found := true, trie := { root := 7, readOnly := false } }).toArray = #[.int .i64 0, .bool true, .int .u64 0, .string ⟨#[]⟩, .int .i64 0, .int .i64 0, .int .i64 7, .bool false] := rfl
  rw [eD]
  go_simp
  refine hK.out _ _ (HS.out _ HB14.out) (fun hS => ?_)
  clear hK K
  (try simp only [Act.put, List.setIfInBounds_toArray, List.set_cons_zero, List.set_cons_succ])
  refine wpAnyH_take (i := 25) (oi := { dst := (some 110), op := (Op.field 32 (Operand.tmp 109) 6), type := 30, pos := "law.go:188", after := #[{ on := 24, ground := Ground.data }, { on := 21, ground := Ground.guard }], guard := (some (21, true)) }) (v := .agg #[.int .i64 7, .bool false]) rfl (by kernel_rfl) (by kernel_rfl) (by kernel_rfl) (fun _ _ _ h => h) (Or.inl ⟨by rfl, fun W' hW => ?_⟩) hS ?_
  · kernel_rfl
  (try simp only [Act.put, List.setIfInBounds_toArray, List.set_cons_zero, List.set_cons_succ])
  refine wpAnyH_take (i := 26) (oi := { dst := (some 111), op := (Op.binOp BinOp.eql 30 (Operand.tmp 107) (Operand.tmp 110) 30), type := 4, pos := "law.go:188", after := #[{ on := 22, ground := Ground.data }, { on := 25, ground := Ground.data }, { on := 21, ground := Ground.guard }], guard := (some (21, true)) }) (v := .bool true) rfl (by kernel_rfl) (by kernel_rfl) (by kernel_rfl) (fun _ _ _ h => h) (Or.inl ⟨by rfl, fun W' hW => ?_⟩) hS ?_
  · kernel_rfl
  (try simp only [Act.put, List.setIfInBounds_toArray, List.set_cons_zero, List.set_cons_succ])
  refine wpAnyH_take (i := 27) (oi := { dst := (some 112), op := (Op.pick (Operand.tmp 106) (Operand.tmp 111) (Operand.const (Value.bool false))), type := 4, pos := "law.go:188", after := #[{ on := 21, ground := Ground.data }, { on := 26, ground := Ground.data }], guard := none }) (v := .bool true) rfl (by kernel_rfl) (by kernel_rfl) (by kernel_rfl) (fun _ _ _ h => h) (Or.inl ⟨by rfl, fun W' hW => ?_⟩) hS ?_
  · go_simp
  (try simp only [Act.put, List.setIfInBounds_toArray, List.set_cons_zero, List.set_cons_succ])
  refine wpAnyH_take (i := 28) (oi := { dst := (some 113), op := (Op.move (Operand.tmp 112)), type := 4, pos := "law.go:188", after := #[{ on := 27, ground := Ground.data }, { on := 24, ground := Ground.chain }], guard := none }) (v := .bool true) rfl (by kernel_rfl) (by kernel_rfl) (by kernel_rfl) (fun _ _ _ h => h) (Or.inl ⟨by rfl, fun W' hW => ?_⟩) hS ?_
  · go_simp
  (try simp only [Act.put, List.setIfInBounds_toArray, List.set_cons_zero, List.set_cons_succ])
  refine wpAnyH_take (i := 29) (oi := { dst := (some 114), op := (Op.fieldAddr 30 (Operand.tmp 17) 1), type := 0, pos := "law.go:188", after := #[{ on := 28, ground := Ground.guard }], guard := (some (28, true)) }) (v := .pointer (some ⟨w10.heap.size, 1, none⟩)) rfl (by kernel_rfl) (by kernel_rfl) (by kernel_rfl) (fun _ _ _ h => h) (Or.inl ⟨by rfl, fun W' hW => ?_⟩) hS ?_
  · go_simp
  (try simp only [Act.put, List.setIfInBounds_toArray, List.set_cons_zero, List.set_cons_succ])
  refine wpAnyH_take (i := 30) (oi := { dst := (some 115), op := (Op.load 4 (Operand.tmp 114)), type := 4, pos := "law.go:188", after := #[{ on := 29, ground := Ground.data }, { on := 28, ground := Ground.guard }], guard := (some (28, true)) }) (v := .bool false) rfl (by kernel_rfl) (by kernel_rfl) (by kernel_rfl) (fun _ _ _ h => h) (Or.inl ⟨by rfl, fun W' hW => ?_⟩) hS ?_
  · go_simp
  (try simp only [Act.put, List.setIfInBounds_toArray, List.set_cons_zero, List.set_cons_succ])
  refine wpAnyH_take (i := 31) (oi := { dst := (some 116), op := (Op.move (Operand.tmp 3)), type := 4, pos := "law.go:188", after := #[{ on := 28, ground := Ground.guard }], guard := (some (28, true)) }) (v := .bool false) rfl (by kernel_rfl) (by kernel_rfl) (by kernel_rfl) (fun _ _ _ h => h) (Or.inl ⟨by rfl, fun W' hW => ?_⟩) hS ?_
  · go_simp
  (try simp only [Act.put, List.setIfInBounds_toArray, List.set_cons_zero, List.set_cons_succ])
  refine wpAnyH_take (i := 32) (oi := { dst := (some 117), op := (Op.binOp BinOp.eql 4 (Operand.tmp 115) (Operand.tmp 116) 4), type := 4, pos := "law.go:188", after := #[{ on := 30, ground := Ground.data }, { on := 31, ground := Ground.data }, { on := 28, ground := Ground.guard }], guard := (some (28, true)) }) (v := .bool true) rfl (by kernel_rfl) (by kernel_rfl) (by kernel_rfl) (fun _ _ _ h => h) (Or.inl ⟨by rfl, fun W' hW => ?_⟩) hS ?_
  · go_simp
  (try simp only [Act.put, List.setIfInBounds_toArray, List.set_cons_zero, List.set_cons_succ])
  refine wpAnyH_take (i := 33) (oi := { dst := (some 118), op := (Op.pick (Operand.tmp 113) (Operand.tmp 117) (Operand.const (Value.bool false))), type := 4, pos := "law.go:188", after := #[{ on := 28, ground := Ground.data }, { on := 32, ground := Ground.data }], guard := none }) (v := .bool true) rfl (by kernel_rfl) (by kernel_rfl) (by kernel_rfl) (fun _ _ _ h => h) (Or.inl ⟨by rfl, fun W' hW => ?_⟩) hS ?_
  · go_simp
  (try simp only [Act.put, List.setIfInBounds_toArray, List.set_cons_zero, List.set_cons_succ])
  refine wpAnyH_take (i := 34) (oi := { dst := (some 119), op := (Op.move (Operand.tmp 118)), type := 4, pos := "law.go:188", after := #[{ on := 33, ground := Ground.data }, { on := 28, ground := Ground.chain }], guard := none }) (v := .bool true) rfl (by kernel_rfl) (by kernel_rfl) (by kernel_rfl) (fun _ _ _ h => h) (Or.inl ⟨by rfl, fun W' hW => ?_⟩) hS ?_
  · go_simp
  (try simp only [Act.put, List.setIfInBounds_toArray, List.set_cons_zero, List.set_cons_succ])
  refine wpAnyH_take (i := 35) (oi := { dst := (some 120), op := (Op.load 32 (Operand.tmp 19)), type := 32, pos := "law.go:188", after := #[{ on := 34, ground := Ground.guard }], guard := (some (34, true)) }) (v := .agg #[.int .i64 0, .bool false, .int .u64 0, .string ⟨#[]⟩, .int .i64 0, .int .i64 0, .int .i64 0, .bool false]) rfl (by kernel_rfl) (by kernel_rfl) (by kernel_rfl) (fun _ _ _ h => h) (Or.inl ⟨by rfl, fun W' hW => ?_⟩) hS ?_
  · go_simp
  (try simp only [Act.put, List.setIfInBounds_toArray, List.set_cons_zero, List.set_cons_succ])
  refine wpAnyH_take (i := 36) (oi := { dst := (some 121), op := (Op.build 32 #[]), type := 32, pos := "law.go:188", after := #[{ on := 34, ground := Ground.guard }], guard := (some (34, true)) }) (v := .agg #[.int .i64 0, .bool false, .int .u64 0, .string ⟨#[]⟩, .int .i64 0, .int .i64 0, .int .i64 0, .bool false]) rfl (by kernel_rfl) (by kernel_rfl) (by kernel_rfl) (fun _ _ _ h => h) (Or.inl ⟨by rfl, fun W' hW => ?_⟩) hS ?_
  · go_simp
  (try simp only [Act.put, List.setIfInBounds_toArray, List.set_cons_zero, List.set_cons_succ])
  refine wpAnyH_take (i := 37) (oi := { dst := (some 122), op := (Op.binOp BinOp.eql 32 (Operand.tmp 120) (Operand.tmp 121) 32), type := 4, pos := "law.go:188", after := #[{ on := 35, ground := Ground.data }, { on := 36, ground := Ground.data }, { on := 34, ground := Ground.guard }], guard := (some (34, true)) }) (v := .bool true) rfl (by kernel_rfl) (by kernel_rfl) (by kernel_rfl) (fun _ _ _ h => h) (Or.inl ⟨by rfl, fun W' hW => ?_⟩) hS ?_
  · kernel_rfl
  (try simp only [Act.put, List.setIfInBounds_toArray, List.set_cons_zero, List.set_cons_succ])
  refine wpAnyH_take (i := 38) (oi := { dst := (some 123), op := (Op.pick (Operand.tmp 119) (Operand.tmp 122) (Operand.const (Value.bool false))), type := 4, pos := "law.go:188", after := #[{ on := 34, ground := Ground.data }, { on := 37, ground := Ground.data }], guard := none }) (v := .bool true) rfl (by kernel_rfl) (by kernel_rfl) (by kernel_rfl) (fun _ _ _ h => h) (Or.inl ⟨by rfl, fun W' hW => ?_⟩) hS ?_
  · go_simp
  (try simp only [Act.put, List.setIfInBounds_toArray, List.set_cons_zero, List.set_cons_succ])
  refine wpAnyH_take (i := 39) (oi := { dst := (some 8), op := (Op.assign (Operand.tmp 123)), type := 4, pos := "law.go:188", after := #[{ on := 38, ground := Ground.data }, { on := 34, ground := Ground.chain }, { on := 0, ground := Ground.phase }, { on := 1, ground := Ground.phase }, { on := 2, ground := Ground.phase }, { on := 3, ground := Ground.phase }, { on := 4, ground := Ground.phase }, { on := 5, ground := Ground.phase }, { on := 6, ground := Ground.phase }, { on := 7, ground := Ground.phase }, { on := 8, ground := Ground.phase }, { on := 9, ground := Ground.phase }, { on := 10, ground := Ground.phase }, { on := 11, ground := Ground.phase }, { on := 12, ground := Ground.phase }, { on := 13, ground := Ground.phase }, { on := 14, ground := Ground.phase }, { on := 15, ground := Ground.phase }, { on := 16, ground := Ground.phase }, { on := 17, ground := Ground.phase }, { on := 18, ground := Ground.phase }, { on := 19, ground := Ground.phase }, { on := 20, ground := Ground.phase }, { on := 21, ground := Ground.phase }, { on := 22, ground := Ground.phase }, { on := 23, ground := Ground.phase }, { on := 24, ground := Ground.phase }, { on := 25, ground := Ground.phase }, { on := 26, ground := Ground.phase }, { on := 27, ground := Ground.phase }, { on := 28, ground := Ground.phase }, { on := 29, ground := Ground.phase }, { on := 30, ground := Ground.phase }, { on := 31, ground := Ground.phase }, { on := 32, ground := Ground.phase }, { on := 33, ground := Ground.phase }, { on := 34, ground := Ground.phase }, { on := 35, ground := Ground.phase }, { on := 36, ground := Ground.phase }, { on := 37, ground := Ground.phase }, { on := 38, ground := Ground.phase }], guard := none }) (v := .bool true) rfl (by kernel_rfl) (by kernel_rfl) (by kernel_rfl) (fun _ _ _ h => h) (Or.inl ⟨by rfl, fun W' hW => ?_⟩) hS ?_
  · go_simp
  (try simp only [Act.put, List.setIfInBounds_toArray, List.set_cons_zero, List.set_cons_succ])
  refine wpAnyH_done (by kernel_rfl) ?_ _
  go_wp2_with fail
  go_ret
  exact ⟨rfl, bstep HB0.out HB0.out.size ((R13.out.below (g := _) HB14.out).toBelow)⟩

end Go.Proofs.YtahfjiloddfjaaaGreatDoor
