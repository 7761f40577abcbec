/- The walks of solo's Run, Gap, Costs and Bound. The walks of solo's Gap, and of Costs for scripts without picks. The walk of SoloLimits. The walk of SoloLimits. -/
import Derived.Test.YtifehcegnofpkaaGreatDoorGC
namespace Go.Proofs.YtifehcegnofpkaaGreatDoor
open Go.RowKit
set_option linter.unusedVariables false

set_option maxRecDepth 100000 in
set_option maxHeartbeats 800000 in
theorem bound_any (t u : Int) (w : World) (ht : -9223372036854775808 ≤ t ∧ t ≤ 9223372036854775807) (hu : -9223372036854775808 ≤ u ∧ u ≤ 9223372036854775807) :
    Calls Tryz.prog 15 #[.int .i64 t, .int .i64 u] w fun e w' => e = .returned (.int .u64 (boundC t u)) ∧ w = w' := by
  unfold boundC
  by_cases h1 : t < 1
  · rw [if_pos (.inl h1)]
    go_enter Tryz.func15, Tryz.ntmps15
    go_wp2_with fail
    go_ret
    exact ⟨rfl, rfl⟩
  · by_cases h2 : 8 < t
    · rw [if_pos (.inr (.inl h2))]
      go_enter Tryz.func15, Tryz.ntmps15
      go_wp2_with fail
      go_ret
      exact ⟨rfl, rfl⟩
    · by_cases h3 : u < 0
      · rw [if_pos (.inr (.inr (.inl h3)))]
        go_enter Tryz.func15, Tryz.ntmps15
        go_wp2_with fail
        go_ret
        exact ⟨rfl, rfl⟩
      · by_cases h4 : 128 < u
        · rw [if_pos (.inr (.inr (.inr h4)))]
          go_enter Tryz.func15, Tryz.ntmps15
          go_wp2_with fail
          go_ret
          exact ⟨rfl, rfl⟩
        · rw [if_neg (by omega)]
          have hb : ∀ a b A B : Int, 0 ≤ a → 0 ≤ b → a ≤ A → b ≤ B → 0 ≤ A → 0 ≤ a * b ∧ a * b ≤ A * B := fun a b A B h1 h2 h3 h4 h5 => ⟨Int.mul_nonneg h1 h2, Int.mul_le_mul h3 h4 h2 h5⟩
          have m1 := hb 262144 t 262144 8 (by omega) (by omega) (by omega) (by omega) (by omega)
          have m2 := hb _ t _ 8 m1.1 (by omega) m1.2 (by omega) (by omega)
          have m3 := hb _ t _ 8 m2.1 (by omega) m2.2 (by omega) (by omega)
          have m4 := hb _ t _ 8 m3.1 (by omega) m3.2 (by omega) (by omega)
          have m5 := hb _ (u + 1) _ 129 m4.1 (by omega) m4.2 (by omega) (by omega)
          go_enter Tryz.func15, Tryz.ntmps15
          go_wp2_with fail
          go_ret
          exact ⟨rfl, rfl⟩

/-! ### Run -/
theorem lateC_neg {l : List (List Ct.Op)} {pk : List Int} {th : Int} (h : th < 0) : lateC l pk th = true := by unfold lateC; simp [h]
theorem lateC_past {l : List (List Ct.Op)} {pk : List Int} {th : Int} (h : (l.length : Int) ≤ th) : lateC l pk th = true := by unfold lateC; simp [h]
theorem lateC_in {l : List (List Ct.Op)} {pk : List Int} {i : Nat} {os : List Ct.Op} (h : l[i]? = some os) : lateC l pk (i : Nat) = decide (os.length ≤ returnsC (startM l pk).history (i : Nat)) := by
  unfold lateC
  have hlt := (List.getElem?_eq_some_iff.1 h).1
  have h1 : ¬ ((i : Int) < 0) := by omega
  have h2 : ¬ ((l.length : Int) ≤ (i : Int)) := by omega
  simp only [h1, h2, decide_false, Bool.false_or, Int.toNat_natCast]
  have e : l.getD i [] = os := by rw [List.getD_eq_getElem?_getD, h]; rfl
  simp only [e]

/-- What the question whether a thread is done reads. -/
structure LateS (w : World) (l : List (List Ct.Op)) (i b off no : Nat) (p' : Option Addr) (cap cap' : Nat) (W : World) : Prop where
  c1 : W.cell? ⟨w.heap.size, 1, none⟩ = some (.slice (some ⟨b, off, none⟩) l.length cap)
  c2 : W.cell? ⟨b, off + i, none⟩ = some (.slice p' no cap')

def SoloRes (w : World) (r : Int × Int × Bool × Int) (e : Ending) (w' : World) : Prop := e = .returned (.tuple #[.int .i64 r.1, .int .i64 r.2.1, .bool r.2.2.1, .int .i64 r.2.2.2]) ∧ Below w.heap.size w w'

set_option maxRecDepth 100000 in
set_option maxHeartbeats 1600000 in
theorem soloRun_any (N0 : Nat → Prop) (w : World) (mask : Nat) (vths vpk : Value) (l : List (List Ct.Op)) (pk : List Int) (th most : Int) (h1 : ThreadsAt N0 w vths l) (h2 : PicksAt N0 w vpk pk) (hk : KindsOk l) (hn : pk.length + most.toNat ≤ 400000)
    (ht : -9223372036854775808 ≤ th ∧ th ≤ 9223372036854775807) (hu : -9223372036854775808 ≤ most ∧ most ≤ 9223372036854775807) :
    Calls Tryz.prog 4 #[.agg #[.int .u64 (mask : Nat), vths, vpk], .int .i64 th, .int .i64 most] w (SoloRes w (soloRunC l pk th most)) := by
  obtain ⟨p, cap, rfl, hm, hf⟩ := h1.form
  obtain ⟨q, cq, rfl, hmq, hg⟩ := RowAt.form h2 (by simp)
  have hb0 := (Below.refl w.heap.size w).alloc (Nat.le_refl _) (.cells #[.int .u64 (mask : Nat), .slice p l.length cap, .slice q pk.length cq] 26)
  have hat0 := heap_alloc_at w (.cells #[.int .u64 (mask : Nat), .slice p l.length cap, .slice q pk.length cq] 26)
  have HNEW := Lib.hid (schedNew_any N0 (w.alloc (.cells #[.int .u64 (mask : Nat), .slice p l.length cap, .slice q pk.length cq] 26)) mask _ _ l pk (h1.below hb0) (h2.below hb0))
  have hlt1 : w.heap.size < (w.alloc (.cells #[.int .u64 (mask : Nat), .slice p l.length cap, .slice q pk.length cq] 26)).heap.size := by simp
  obtain ⟨W1, hW1⟩ : ∃ W, w.alloc (.cells #[.int .u64 (mask : Nat), .slice p l.length cap, .slice q pk.length cq] 26) = W := ⟨_, rfl⟩
  rw [hW1] at hb0 hat0 HNEW hlt1
  have HSC : Hid (∀ W, Keep (fun k => W1.heap.size ≤ k) W1 W → W.cell? ⟨w.heap.size, 1, none⟩ = some (.slice p l.length cap)) := fun W k => k.cell (cell_at hat0 1) (by simp; omega)
  have HTH : Hid (∀ W, Keep (fun k => W1.heap.size ≤ k) W1 W → ∀ (i : Nat) os, l[i]? = some os → ∃ b off p' cap', p = some ⟨b, off, none⟩ ∧ W.cell? ⟨b, off + i, none⟩ = some (.slice p' os.length cap')) := fun W k i os hi => by
    obtain ⟨b, off, u, e, hb, hc, ho⟩ := hf i os hi
    obtain ⟨p', cap', rfl⟩ := ho.form
    exact ⟨b, off, p', cap', e, k.cell (cell_below hc hb0) (by simp; omega)⟩
  have HB0 := Lib.hid hb0; have HW1 := Lib.hid hW1
  have HK := Lib.hid hk; have HN := Lib.hid hn
  obtain ⟨cc, hcc⟩ : ∃ c, checkC l pk.length = c := ⟨_, rfl⟩
  have HCC := Lib.hid hcc
  unfold NewMRes at HNEW
  obtain ⟨rr, hrr⟩ : ∃ r, soloRunC l pk th most = r := ⟨_, rfl⟩
  have HRR := Lib.hid hrr
  rw [hrr]
  by_cases hc0 : cc = 0
  · subst hc0
    have HNEW2 : Hid (Calls Tryz.prog 8 #[.agg #[.int .u64 (mask : Nat), .slice p l.length cap, .slice q pk.length cq]] W1 fun e w' => ∃ m vpk, e = .returned (.tuple #[.pointer (some ⟨m.mb, 0, none⟩), .int .i64 0]) ∧ m.mask = mask ∧ MachZ W1.heap.size W1 w' m vpk (pk.map (pickOf l.length)) (newM l)) := HNEW.out.mono fun e w' h => by rw [if_pos hcc] at h; exact h
    have inv0 : MInv (most.toNat + (pk.map (pickOf l.length)).length) (newM l) := MInv.new hcc hk (by simp; omega)
    have INV0 := Lib.hid inv0
    have hn8 : l.length ≤ 8 := (checkC_ok hcc).1
    clear h1 h2 hf hg hb0 hat0 hW1 hk hn hcc HNEW inv0 hrr
    go_enter Tryz.func4, Tryz.ntmps4
    go_wp2_with fail
    refine (with_world HW1.out HNEW2.out).mono ?_
    rintro e w2 ⟨m, vpk, rfl, hmk, hz⟩
    have hpr : ∀ x ∈ pk.map (pickOf l.length), -1 ≤ x ∧ x ≤ 7 := fun x hx => by
      obtain ⟨y, _, rfl⟩ := List.mem_map.1 hx
      exact pickOf_range _ _ hn8
    have HRUN := Lib.hid (machRun_any w2 m vpk _ _ hz INV0.out hpr)
    clear hz hpr HNEW2
    go_wp2_with fail
    refine HRUN.out.mono ?_
    rintro e w3 ⟨rfl, hz3⟩
    have inv3 : MInv most.toNat (startM l pk) := by unfold startM; exact MInv.runM (pk.map (pickOf l.length)) (newM l) most.toNat INV0.out
    have hz3' : MachZ W1.heap.size W1 w3 m vpk (pk.map (pickOf l.length)) (startM l pk) := by unfold startM; exact hz3
    have HZ3 := Lib.hid hz3'; have INV3 := Lib.hid inv3
    have s1 := HSC.out w3 hz3.keep
    have HR := Lib.hid (returns_any w3.drew m vpk _ (startM l pk) th (hz3'.below (Below.drew0 w3)) inv3)
    clear hz3 hz3' inv3 HRUN
    by_cases q1 : th < 0
    · have HE : Hid (rr = (0, 0, false, 8)) := by
        show _ = _
        rw [← HRR.out]; unfold soloRunC
        rw [if_neg (by rw [HCC.out]; simp), if_pos (lateC_neg q1)]
      go_wp2_with fail
      refine wp_region_held_drew (S := fun W' => True) (by kernel_rfl) trivial (fun hS => ?_)
      refine wpAnyH_take (i := 0) (oi := { dst := (some 24), op := (Op.move (Operand.tmp 1)), type := 3, pos := "solo.go:25", after := #[], guard := none }) (v := .int .i64 th) rfl (by kernel_rfl) (by kernel_rfl) (by kernel_rfl) (fun _ _ _ h => h) (Or.inl ⟨by rfl, fun W' hW => ?_⟩) hS ?_
      · go_simp
      (try simp only [Act.put, List.setIfInBounds_toArray, List.set_cons_zero, List.set_cons_succ])
      refine wpAnyH_take (i := 1) (oi := { dst := (some 25), op := (Op.binOp BinOp.lss 3 (Operand.tmp 24) (Operand.const (Value.int IntKind.i64 0)) 3), type := 4, pos := "solo.go:25", after := #[{ on := 0, ground := Ground.data }], guard := none }) (v := .bool true) rfl (by kernel_rfl) (by kernel_rfl) (by kernel_rfl) (fun _ _ _ h => h) (Or.inl ⟨by rfl, fun W' hW => ?_⟩) hS ?_
      · go_simp
      (try simp only [Act.put, List.setIfInBounds_toArray, List.set_cons_zero, List.set_cons_succ])
      refine wpAnyH_take (i := 2) (oi := { dst := (some 26), op := (Op.move (Operand.tmp 25)), type := 4, pos := "solo.go:25", after := #[{ on := 1, ground := Ground.data }], guard := none }) (v := .bool true) rfl (by kernel_rfl) (by kernel_rfl) (by kernel_rfl) (fun _ _ _ h => h) (Or.inl ⟨by rfl, fun W' hW => ?_⟩) hS ?_
      · go_simp
      (try simp only [Act.put, List.setIfInBounds_toArray, List.set_cons_zero, List.set_cons_succ])
      refine wpAnyH_take (i := 3) (oi := { dst := (some 27), op := (Op.move (Operand.tmp 1)), type := 3, pos := "solo.go:25", after := #[{ on := 2, ground := Ground.guard }], guard := (some (2, false)) }) (v := undef) rfl (by kernel_rfl) (by kernel_rfl) (by kernel_rfl) (fun _ _ _ h => h) (Or.inr ⟨by rfl, rfl⟩) hS ?_
      (try simp only [Act.put, List.setIfInBounds_toArray, List.set_cons_zero, List.set_cons_succ])
      refine wpAnyH_take (i := 4) (oi := { dst := (some 28), op := (Op.fieldAddr 26 (Operand.tmp 3) 1), type := 0, pos := "solo.go:25", after := #[{ on := 2, ground := Ground.guard }], guard := (some (2, false)) }) (v := undef) rfl (by kernel_rfl) (by kernel_rfl) (by kernel_rfl) (fun _ _ _ h => h) (Or.inr ⟨by rfl, rfl⟩) hS ?_
      (try simp only [Act.put, List.setIfInBounds_toArray, List.set_cons_zero, List.set_cons_succ])
      refine wpAnyH_take (i := 5) (oi := { dst := (some 29), op := (Op.load 23 (Operand.tmp 28)), type := 23, pos := "solo.go:25", after := #[{ on := 4, ground := Ground.data }, { on := 2, ground := Ground.guard }], guard := (some (2, false)) }) (v := undef) rfl (by kernel_rfl) (by kernel_rfl) (by kernel_rfl) (fun _ _ _ h => h) (Or.inr ⟨by rfl, rfl⟩) hS ?_
      (try simp only [Act.put, List.setIfInBounds_toArray, List.set_cons_zero, List.set_cons_succ])
      refine wpAnyH_take (i := 6) (oi := { dst := (some 30), op := (Op.call { callee := (Callee.builtin Builtin.len), args := #[(Operand.tmp 29)], argTypes := #[23] }), type := 3, pos := "solo.go:25", after := #[{ on := 5, ground := Ground.data }, { on := 2, ground := Ground.guard }], guard := (some (2, false)) }) (v := undef) rfl (by kernel_rfl) (by kernel_rfl) (by kernel_rfl) (fun _ _ _ h => h) (Or.inr ⟨by rfl, rfl⟩) hS ?_
      (try simp only [Act.put, List.setIfInBounds_toArray, List.set_cons_zero, List.set_cons_succ])
      refine wpAnyH_take (i := 7) (oi := { dst := (some 31), op := (Op.binOp BinOp.geq 3 (Operand.tmp 27) (Operand.tmp 30) 3), type := 4, pos := "solo.go:25", after := #[{ on := 3, ground := Ground.data }, { on := 6, ground := Ground.data }, { on := 2, ground := Ground.guard }], guard := (some (2, false)) }) (v := undef) rfl (by kernel_rfl) (by kernel_rfl) (by kernel_rfl) (fun _ _ _ h => h) (Or.inr ⟨by rfl, rfl⟩) hS ?_
      (try simp only [Act.put, List.setIfInBounds_toArray, List.set_cons_zero, List.set_cons_succ])
      refine wpAnyH_take (i := 8) (oi := { dst := (some 32), op := (Op.pick (Operand.tmp 26) (Operand.const (Value.bool true)) (Operand.tmp 31)), type := 4, pos := "solo.go:25", after := #[{ on := 2, ground := Ground.data }, { on := 7, ground := Ground.data }], guard := none }) (v := .bool true) rfl (by kernel_rfl) (by kernel_rfl) (by kernel_rfl) (fun _ _ _ h => h) (Or.inl ⟨by rfl, fun W' hW => ?_⟩) hS ?_
      · go_simp
      (try simp only [Act.put, List.setIfInBounds_toArray, List.set_cons_zero, List.set_cons_succ])
      refine wpAnyH_take (i := 9) (oi := { dst := (some 33), op := (Op.move (Operand.tmp 32)), type := 4, pos := "solo.go:25", after := #[{ on := 8, ground := Ground.data }, { on := 2, ground := Ground.chain }], guard := none }) (v := .bool true) rfl (by kernel_rfl) (by kernel_rfl) (by kernel_rfl) (fun _ _ _ h => h) (Or.inl ⟨by rfl, fun W' hW => ?_⟩) hS ?_
      · go_simp
      (try simp only [Act.put, List.setIfInBounds_toArray, List.set_cons_zero, List.set_cons_succ])
      refine wpAnyH_take (i := 10) (oi := { dst := (some 34), op := (Op.move (Operand.tmp 10)), type := 37, pos := "solo.go:25", after := #[{ on := 9, ground := Ground.guard }], guard := (some (9, false)) }) (v := undef) rfl (by kernel_rfl) (by kernel_rfl) (by kernel_rfl) (fun _ _ _ h => h) (Or.inr ⟨by rfl, rfl⟩) hS ?_
      (try simp only [Act.put, List.setIfInBounds_toArray, List.set_cons_zero, List.set_cons_succ])
      refine wpAnyH_take (i := 11) (oi := { dst := (some 35), op := (Op.move (Operand.tmp 1)), type := 3, pos := "solo.go:25", after := #[{ on := 9, ground := Ground.guard }], guard := (some (9, false)) }) (v := undef) rfl (by kernel_rfl) (by kernel_rfl) (by kernel_rfl) (fun _ _ _ h => h) (Or.inr ⟨by rfl, rfl⟩) hS ?_
      (try simp only [Act.put, List.setIfInBounds_toArray, List.set_cons_zero, List.set_cons_succ])
      refine wpAnyH_take (i := 12) (oi := { dst := (some 36), op := (Op.call { callee := (Callee.value (Operand.func 10)), args := #[(Operand.tmp 34), (Operand.tmp 35)], argTypes := #[37, 3] }), type := 3, pos := "solo.go:25", after := #[{ on := 10, ground := Ground.data }, { on := 11, ground := Ground.data }, { on := 9, ground := Ground.chain }, { on := 9, ground := Ground.guard }], guard := (some (9, false)) }) (v := undef) rfl (by kernel_rfl) (by kernel_rfl) (by kernel_rfl) (fun _ _ _ h => h) (Or.inr ⟨by rfl, rfl⟩) hS ?_
      (try simp only [Act.put, List.setIfInBounds_toArray, List.set_cons_zero, List.set_cons_succ])
      refine wpAnyH_take (i := 13) (oi := { dst := (some 37), op := (Op.fieldAddr 26 (Operand.tmp 3) 1), type := 0, pos := "solo.go:25", after := #[{ on := 9, ground := Ground.guard }], guard := (some (9, false)) }) (v := undef) rfl (by kernel_rfl) (by kernel_rfl) (by kernel_rfl) (fun _ _ _ h => h) (Or.inr ⟨by rfl, rfl⟩) hS ?_
      (try simp only [Act.put, List.setIfInBounds_toArray, List.set_cons_zero, List.set_cons_succ])
      refine wpAnyH_take (i := 14) (oi := { dst := (some 38), op := (Op.load 23 (Operand.tmp 37)), type := 23, pos := "solo.go:25", after := #[{ on := 13, ground := Ground.data }, { on := 9, ground := Ground.guard }], guard := (some (9, false)) }) (v := undef) rfl (by kernel_rfl) (by kernel_rfl) (by kernel_rfl) (fun _ _ _ h => h) (Or.inr ⟨by rfl, rfl⟩) hS ?_
      (try simp only [Act.put, List.setIfInBounds_toArray, List.set_cons_zero, List.set_cons_succ])
      refine wpAnyH_take (i := 15) (oi := { dst := (some 39), op := (Op.move (Operand.tmp 1)), type := 3, pos := "solo.go:25", after := #[{ on := 9, ground := Ground.guard }], guard := (some (9, false)) }) (v := undef) rfl (by kernel_rfl) (by kernel_rfl) (by kernel_rfl) (fun _ _ _ h => h) (Or.inr ⟨by rfl, rfl⟩) hS ?_
      (try simp only [Act.put, List.setIfInBounds_toArray, List.set_cons_zero, List.set_cons_succ])
      refine wpAnyH_take (i := 16) (oi := { dst := (some 40), op := (Op.indexAddr 23 (Operand.tmp 38) (Operand.tmp 39)), type := 0, pos := "solo.go:25", after := #[{ on := 14, ground := Ground.data }, { on := 15, ground := Ground.data }, { on := 9, ground := Ground.guard }], guard := (some (9, false)) }) (v := undef) rfl (by kernel_rfl) (by kernel_rfl) (by kernel_rfl) (fun _ _ _ h => h) (Or.inr ⟨by rfl, rfl⟩) hS ?_
      (try simp only [Act.put, List.setIfInBounds_toArray, List.set_cons_zero, List.set_cons_succ])
      refine wpAnyH_take (i := 17) (oi := { dst := (some 41), op := (Op.load 27 (Operand.tmp 40)), type := 27, pos := "solo.go:25", after := #[{ on := 16, ground := Ground.data }, { on := 9, ground := Ground.guard }], guard := (some (9, false)) }) (v := undef) rfl (by kernel_rfl) (by kernel_rfl) (by kernel_rfl) (fun _ _ _ h => h) (Or.inr ⟨by rfl, rfl⟩) hS ?_
      (try simp only [Act.put, List.setIfInBounds_toArray, List.set_cons_zero, List.set_cons_succ])
      refine wpAnyH_take (i := 18) (oi := { dst := (some 42), op := (Op.call { callee := (Callee.builtin Builtin.len), args := #[(Operand.tmp 41)], argTypes := #[27] }), type := 3, pos := "solo.go:25", after := #[{ on := 17, ground := Ground.data }, { on := 9, ground := Ground.guard }], guard := (some (9, false)) }) (v := undef) rfl (by kernel_rfl) (by kernel_rfl) (by kernel_rfl) (fun _ _ _ h => h) (Or.inr ⟨by rfl, rfl⟩) hS ?_
      (try simp only [Act.put, List.setIfInBounds_toArray, List.set_cons_zero, List.set_cons_succ])
      refine wpAnyH_take (i := 19) (oi := { dst := (some 43), op := (Op.binOp BinOp.geq 3 (Operand.tmp 36) (Operand.tmp 42) 3), type := 4, pos := "solo.go:25", after := #[{ on := 12, ground := Ground.data }, { on := 18, ground := Ground.data }, { on := 9, ground := Ground.guard }], guard := (some (9, false)) }) (v := undef) rfl (by kernel_rfl) (by kernel_rfl) (by kernel_rfl) (fun _ _ _ h => h) (Or.inr ⟨by rfl, rfl⟩) hS ?_
      (try simp only [Act.put, List.setIfInBounds_toArray, List.set_cons_zero, List.set_cons_succ])
      refine wpAnyH_take (i := 20) (oi := { dst := (some 44), op := (Op.pick (Operand.tmp 33) (Operand.const (Value.bool true)) (Operand.tmp 43)), type := 4, pos := "solo.go:25", after := #[{ on := 9, ground := Ground.data }, { on := 19, ground := Ground.data }], guard := none }) (v := .bool true) rfl (by kernel_rfl) (by kernel_rfl) (by kernel_rfl) (fun _ _ _ h => h) (Or.inl ⟨by rfl, fun W' hW => ?_⟩) hS ?_
      · go_simp
      (try simp only [Act.put, List.setIfInBounds_toArray, List.set_cons_zero, List.set_cons_succ])
      refine wpAnyH_done (by kernel_rfl) ?_ _
      go_wp2_with fail
      refine bodyPost_ret (results_tmp4 Tryz.results4 _ _) rfl ?_
      rw [HE.out]
      exact ⟨rfl, below_then HB0.out (by omega) (Below.drew HZ3.out.toBelow)⟩
    · obtain ⟨i, rfl⟩ := Int.eq_ofNat_of_zero_le (Int.not_lt.1 q1)
      by_cases q2 : l.length ≤ i
      · have HE : Hid (rr = (0, 0, false, 8)) := by
          show _ = _
          rw [← HRR.out]; unfold soloRunC
          rw [if_neg (by rw [HCC.out]; simp), if_pos (lateC_past (by omega))]
        go_wp2_with fail
        refine wp_region_held_drew (S := fun W' => W'.cell? ⟨w.heap.size, 1, none⟩ = some (.slice p l.length cap)) (by kernel_rfl) s1 (fun hS => ?_)
        refine wpAnyH_take (i := 0) (oi := { dst := (some 24), op := (Op.move (Operand.tmp 1)), type := 3, pos := "solo.go:25", after := #[], guard := none }) (v := .int .i64 (i : Nat)) rfl (by kernel_rfl) (by kernel_rfl) (by kernel_rfl) (fun _ _ _ h => h) (Or.inl ⟨by rfl, fun W' hW => ?_⟩) hS ?_
        · go_simp
        (try simp only [Act.put, List.setIfInBounds_toArray, List.set_cons_zero, List.set_cons_succ])
        refine wpAnyH_take (i := 1) (oi := { dst := (some 25), op := (Op.binOp BinOp.lss 3 (Operand.tmp 24) (Operand.const (Value.int IntKind.i64 0)) 3), type := 4, pos := "solo.go:25", after := #[{ on := 0, ground := Ground.data }], guard := none }) (v := .bool false) rfl (by kernel_rfl) (by kernel_rfl) (by kernel_rfl) (fun _ _ _ h => h) (Or.inl ⟨by rfl, fun W' hW => ?_⟩) hS ?_
        · go_simp
        (try simp only [Act.put, List.setIfInBounds_toArray, List.set_cons_zero, List.set_cons_succ])
        refine wpAnyH_take (i := 2) (oi := { dst := (some 26), op := (Op.move (Operand.tmp 25)), type := 4, pos := "solo.go:25", after := #[{ on := 1, ground := Ground.data }], guard := none }) (v := .bool false) rfl (by kernel_rfl) (by kernel_rfl) (by kernel_rfl) (fun _ _ _ h => h) (Or.inl ⟨by rfl, fun W' hW => ?_⟩) hS ?_
        · go_simp
        (try simp only [Act.put, List.setIfInBounds_toArray, List.set_cons_zero, List.set_cons_succ])
        refine wpAnyH_take (i := 3) (oi := { dst := (some 27), op := (Op.move (Operand.tmp 1)), type := 3, pos := "solo.go:25", after := #[{ on := 2, ground := Ground.guard }], guard := (some (2, false)) }) (v := .int .i64 (i : Nat)) rfl (by kernel_rfl) (by kernel_rfl) (by kernel_rfl) (fun _ _ _ h => h) (Or.inl ⟨by rfl, fun W' hW => ?_⟩) hS ?_
        · go_simp
        (try simp only [Act.put, List.setIfInBounds_toArray, List.set_cons_zero, List.set_cons_succ])
        refine wpAnyH_take (i := 4) (oi := { dst := (some 28), op := (Op.fieldAddr 26 (Operand.tmp 3) 1), type := 0, pos := "solo.go:25", after := #[{ on := 2, ground := Ground.guard }], guard := (some (2, false)) }) (v := .pointer (some ⟨w.heap.size, 1, none⟩)) rfl (by kernel_rfl) (by kernel_rfl) (by kernel_rfl) (fun _ _ _ h => h) (Or.inl ⟨by rfl, fun W' hW => ?_⟩) hS ?_
        · go_simp
        (try simp only [Act.put, List.setIfInBounds_toArray, List.set_cons_zero, List.set_cons_succ])
        refine wpAnyH_take (i := 5) (oi := { dst := (some 29), op := (Op.load 23 (Operand.tmp 28)), type := 23, pos := "solo.go:25", after := #[{ on := 4, ground := Ground.data }, { on := 2, ground := Ground.guard }], guard := (some (2, false)) }) (v := .slice p l.length cap) rfl (by kernel_rfl) (by kernel_rfl) (by kernel_rfl) (fun _ _ _ h => h) (Or.inl ⟨by rfl, fun W' hW => ?_⟩) hS ?_
        · go_simp
        (try simp only [Act.put, List.setIfInBounds_toArray, List.set_cons_zero, List.set_cons_succ])
        refine wpAnyH_take (i := 6) (oi := { dst := (some 30), op := (Op.call { callee := (Callee.builtin Builtin.len), args := #[(Operand.tmp 29)], argTypes := #[23] }), type := 3, pos := "solo.go:25", after := #[{ on := 5, ground := Ground.data }, { on := 2, ground := Ground.guard }], guard := (some (2, false)) }) (v := .int .i64 (l.length : Nat)) rfl (by kernel_rfl) (by kernel_rfl) (by kernel_rfl) (fun _ _ _ h => h) (Or.inl ⟨by rfl, fun W' hW => ?_⟩) hS ?_
        · go_simp
        (try simp only [Act.put, List.setIfInBounds_toArray, List.set_cons_zero, List.set_cons_succ])
        refine wpAnyH_take (i := 7) (oi := { dst := (some 31), op := (Op.binOp BinOp.geq 3 (Operand.tmp 27) (Operand.tmp 30) 3), type := 4, pos := "solo.go:25", after := #[{ on := 3, ground := Ground.data }, { on := 6, ground := Ground.data }, { on := 2, ground := Ground.guard }], guard := (some (2, false)) }) (v := .bool true) rfl (by kernel_rfl) (by kernel_rfl) (by kernel_rfl) (fun _ _ _ h => h) (Or.inl ⟨by rfl, fun W' hW => ?_⟩) hS ?_
        · go_simp
        (try simp only [Act.put, List.setIfInBounds_toArray, List.set_cons_zero, List.set_cons_succ])
        refine wpAnyH_take (i := 8) (oi := { dst := (some 32), op := (Op.pick (Operand.tmp 26) (Operand.const (Value.bool true)) (Operand.tmp 31)), type := 4, pos := "solo.go:25", after := #[{ on := 2, ground := Ground.data }, { on := 7, ground := Ground.data }], guard := none }) (v := .bool true) rfl (by kernel_rfl) (by kernel_rfl) (by kernel_rfl) (fun _ _ _ h => h) (Or.inl ⟨by rfl, fun W' hW => ?_⟩) hS ?_
        · go_simp
        (try simp only [Act.put, List.setIfInBounds_toArray, List.set_cons_zero, List.set_cons_succ])
        refine wpAnyH_take (i := 9) (oi := { dst := (some 33), op := (Op.move (Operand.tmp 32)), type := 4, pos := "solo.go:25", after := #[{ on := 8, ground := Ground.data }, { on := 2, ground := Ground.chain }], guard := none }) (v := .bool true) rfl (by kernel_rfl) (by kernel_rfl) (by kernel_rfl) (fun _ _ _ h => h) (Or.inl ⟨by rfl, fun W' hW => ?_⟩) hS ?_
        · go_simp
        (try simp only [Act.put, List.setIfInBounds_toArray, List.set_cons_zero, List.set_cons_succ])
        refine wpAnyH_take (i := 10) (oi := { dst := (some 34), op := (Op.move (Operand.tmp 10)), type := 37, pos := "solo.go:25", after := #[{ on := 9, ground := Ground.guard }], guard := (some (9, false)) }) (v := undef) rfl (by kernel_rfl) (by kernel_rfl) (by kernel_rfl) (fun _ _ _ h => h) (Or.inr ⟨by rfl, rfl⟩) hS ?_
        (try simp only [Act.put, List.setIfInBounds_toArray, List.set_cons_zero, List.set_cons_succ])
        refine wpAnyH_take (i := 11) (oi := { dst := (some 35), op := (Op.move (Operand.tmp 1)), type := 3, pos := "solo.go:25", after := #[{ on := 9, ground := Ground.guard }], guard := (some (9, false)) }) (v := undef) rfl (by kernel_rfl) (by kernel_rfl) (by kernel_rfl) (fun _ _ _ h => h) (Or.inr ⟨by rfl, rfl⟩) hS ?_
        (try simp only [Act.put, List.setIfInBounds_toArray, List.set_cons_zero, List.set_cons_succ])
        refine wpAnyH_take (i := 12) (oi := { dst := (some 36), op := (Op.call { callee := (Callee.value (Operand.func 10)), args := #[(Operand.tmp 34), (Operand.tmp 35)], argTypes := #[37, 3] }), type := 3, pos := "solo.go:25", after := #[{ on := 10, ground := Ground.data }, { on := 11, ground := Ground.data }, { on := 9, ground := Ground.chain }, { on := 9, ground := Ground.guard }], guard := (some (9, false)) }) (v := undef) rfl (by kernel_rfl) (by kernel_rfl) (by kernel_rfl) (fun _ _ _ h => h) (Or.inr ⟨by rfl, rfl⟩) hS ?_
        (try simp only [Act.put, List.setIfInBounds_toArray, List.set_cons_zero, List.set_cons_succ])
        refine wpAnyH_take (i := 13) (oi := { dst := (some 37), op := (Op.fieldAddr 26 (Operand.tmp 3) 1), type := 0, pos := "solo.go:25", after := #[{ on := 9, ground := Ground.guard }], guard := (some (9, false)) }) (v := undef) rfl (by kernel_rfl) (by kernel_rfl) (by kernel_rfl) (fun _ _ _ h => h) (Or.inr ⟨by rfl, rfl⟩) hS ?_
        (try simp only [Act.put, List.setIfInBounds_toArray, List.set_cons_zero, List.set_cons_succ])
        refine wpAnyH_take (i := 14) (oi := { dst := (some 38), op := (Op.load 23 (Operand.tmp 37)), type := 23, pos := "solo.go:25", after := #[{ on := 13, ground := Ground.data }, { on := 9, ground := Ground.guard }], guard := (some (9, false)) }) (v := undef) rfl (by kernel_rfl) (by kernel_rfl) (by kernel_rfl) (fun _ _ _ h => h) (Or.inr ⟨by rfl, rfl⟩) hS ?_
        (try simp only [Act.put, List.setIfInBounds_toArray, List.set_cons_zero, List.set_cons_succ])
        refine wpAnyH_take (i := 15) (oi := { dst := (some 39), op := (Op.move (Operand.tmp 1)), type := 3, pos := "solo.go:25", after := #[{ on := 9, ground := Ground.guard }], guard := (some (9, false)) }) (v := undef) rfl (by kernel_rfl) (by kernel_rfl) (by kernel_rfl) (fun _ _ _ h => h) (Or.inr ⟨by rfl, rfl⟩) hS ?_
        (try simp only [Act.put, List.setIfInBounds_toArray, List.set_cons_zero, List.set_cons_succ])
        refine wpAnyH_take (i := 16) (oi := { dst := (some 40), op := (Op.indexAddr 23 (Operand.tmp 38) (Operand.tmp 39)), type := 0, pos := "solo.go:25", after := #[{ on := 14, ground := Ground.data }, { on := 15, ground := Ground.data }, { on := 9, ground := Ground.guard }], guard := (some (9, false)) }) (v := undef) rfl (by kernel_rfl) (by kernel_rfl) (by kernel_rfl) (fun _ _ _ h => h) (Or.inr ⟨by rfl, rfl⟩) hS ?_
        (try simp only [Act.put, List.setIfInBounds_toArray, List.set_cons_zero, List.set_cons_succ])
        refine wpAnyH_take (i := 17) (oi := { dst := (some 41), op := (Op.load 27 (Operand.tmp 40)), type := 27, pos := "solo.go:25", after := #[{ on := 16, ground := Ground.data }, { on := 9, ground := Ground.guard }], guard := (some (9, false)) }) (v := undef) rfl (by kernel_rfl) (by kernel_rfl) (by kernel_rfl) (fun _ _ _ h => h) (Or.inr ⟨by rfl, rfl⟩) hS ?_
        (try simp only [Act.put, List.setIfInBounds_toArray, List.set_cons_zero, List.set_cons_succ])
        refine wpAnyH_take (i := 18) (oi := { dst := (some 42), op := (Op.call { callee := (Callee.builtin Builtin.len), args := #[(Operand.tmp 41)], argTypes := #[27] }), type := 3, pos := "solo.go:25", after := #[{ on := 17, ground := Ground.data }, { on := 9, ground := Ground.guard }], guard := (some (9, false)) }) (v := undef) rfl (by kernel_rfl) (by kernel_rfl) (by kernel_rfl) (fun _ _ _ h => h) (Or.inr ⟨by rfl, rfl⟩) hS ?_
        (try simp only [Act.put, List.setIfInBounds_toArray, List.set_cons_zero, List.set_cons_succ])
        refine wpAnyH_take (i := 19) (oi := { dst := (some 43), op := (Op.binOp BinOp.geq 3 (Operand.tmp 36) (Operand.tmp 42) 3), type := 4, pos := "solo.go:25", after := #[{ on := 12, ground := Ground.data }, { on := 18, ground := Ground.data }, { on := 9, ground := Ground.guard }], guard := (some (9, false)) }) (v := undef) rfl (by kernel_rfl) (by kernel_rfl) (by kernel_rfl) (fun _ _ _ h => h) (Or.inr ⟨by rfl, rfl⟩) hS ?_
        (try simp only [Act.put, List.setIfInBounds_toArray, List.set_cons_zero, List.set_cons_succ])
        refine wpAnyH_take (i := 20) (oi := { dst := (some 44), op := (Op.pick (Operand.tmp 33) (Operand.const (Value.bool true)) (Operand.tmp 43)), type := 4, pos := "solo.go:25", after := #[{ on := 9, ground := Ground.data }, { on := 19, ground := Ground.data }], guard := none }) (v := .bool true) rfl (by kernel_rfl) (by kernel_rfl) (by kernel_rfl) (fun _ _ _ h => h) (Or.inl ⟨by rfl, fun W' hW => ?_⟩) hS ?_
        · go_simp
        (try simp only [Act.put, List.setIfInBounds_toArray, List.set_cons_zero, List.set_cons_succ])
        refine wpAnyH_done (by kernel_rfl) ?_ _
        go_wp2_with fail
        refine bodyPost_ret (results_tmp4 Tryz.results4 _ _) rfl ?_
        rw [HE.out]
        exact ⟨rfl, below_then HB0.out (by omega) (Below.drew HZ3.out.toBelow)⟩
      · have hil : i < l.length := by omega
        obtain ⟨os, hos⟩ : ∃ os, l[i]? = some os := ⟨_, List.getElem?_eq_getElem hil⟩
        obtain ⟨b, off, p', cap', rfl, hco⟩ := HTH.out w3 HZ3.out.keep i os hos
        have hL := lateC_in (pk := pk) hos
        obtain ⟨R, hRR⟩ : ∃ R, returnsC (startM l pk).history (i : Nat) = R := ⟨_, rfl⟩
        obtain ⟨no, hno⟩ : ∃ n, os.length = n := ⟨_, rfl⟩
        rw [hno] at hco hL
        rw [hRR] at HR hL
        have hR6 : R ≤ 1000000 := by
          have h2 : ∀ (l : List Ct.Event) (th : Int), returnsC l th ≤ l.length := fun l th => by
            induction l with
            | nil => exact Nat.le_refl _
            | cons e l ih => simp only [returnsC, List.length_cons]; split <;> omega
          have := h2 (startM l pk).history (i : Nat)
          have h3 := INV3.out.hist
          omega
        have q3 : ¬ (l.length : Int) ≤ (i : Int) := by omega
        by_cases q4 : no ≤ R
        · have HE : Hid (rr = (0, 0, false, 8)) := by
            show _ = _
            rw [← HRR.out]; unfold soloRunC
            rw [if_neg (by rw [HCC.out]; simp), if_pos (by rw [hL]; simpa using q4)]
          clear hos hL hno
          go_wp2_with fail
          refine wp_region_held_drew (S := fun W' => LateS w l i b off no p' cap cap' W') (by kernel_rfl) ⟨s1, hco⟩ (fun hS => ?_)
          refine wpAnyH_take (i := 0) (oi := { dst := (some 24), op := (Op.move (Operand.tmp 1)), type := 3, pos := "solo.go:25", after := #[], guard := none }) (v := .int .i64 (i : Nat)) rfl (by kernel_rfl) (by kernel_rfl) (by kernel_rfl) (fun _ _ _ h => h) (Or.inl ⟨by rfl, fun W' hW => ?_⟩) hS ?_
          · go_simp
          (try simp only [Act.put, List.setIfInBounds_toArray, List.set_cons_zero, List.set_cons_succ])
          refine wpAnyH_take (i := 1) (oi := { dst := (some 25), op := (Op.binOp BinOp.lss 3 (Operand.tmp 24) (Operand.const (Value.int IntKind.i64 0)) 3), type := 4, pos := "solo.go:25", after := #[{ on := 0, ground := Ground.data }], guard := none }) (v := .bool false) rfl (by kernel_rfl) (by kernel_rfl) (by kernel_rfl) (fun _ _ _ h => h) (Or.inl ⟨by rfl, fun W' hW => ?_⟩) hS ?_
          · go_simp
          (try simp only [Act.put, List.setIfInBounds_toArray, List.set_cons_zero, List.set_cons_succ])
          refine wpAnyH_take (i := 2) (oi := { dst := (some 26), op := (Op.move (Operand.tmp 25)), type := 4, pos := "solo.go:25", after := #[{ on := 1, ground := Ground.data }], guard := none }) (v := .bool false) rfl (by kernel_rfl) (by kernel_rfl) (by kernel_rfl) (fun _ _ _ h => h) (Or.inl ⟨by rfl, fun W' hW => ?_⟩) hS ?_
          · go_simp
          (try simp only [Act.put, List.setIfInBounds_toArray, List.set_cons_zero, List.set_cons_succ])
          refine wpAnyH_take (i := 3) (oi := { dst := (some 27), op := (Op.move (Operand.tmp 1)), type := 3, pos := "solo.go:25", after := #[{ on := 2, ground := Ground.guard }], guard := (some (2, false)) }) (v := .int .i64 (i : Nat)) rfl (by kernel_rfl) (by kernel_rfl) (by kernel_rfl) (fun _ _ _ h => h) (Or.inl ⟨by rfl, fun W' hW => ?_⟩) hS ?_
          · go_simp
          (try simp only [Act.put, List.setIfInBounds_toArray, List.set_cons_zero, List.set_cons_succ])
          refine wpAnyH_take (i := 4) (oi := { dst := (some 28), op := (Op.fieldAddr 26 (Operand.tmp 3) 1), type := 0, pos := "solo.go:25", after := #[{ on := 2, ground := Ground.guard }], guard := (some (2, false)) }) (v := .pointer (some ⟨w.heap.size, 1, none⟩)) rfl (by kernel_rfl) (by kernel_rfl) (by kernel_rfl) (fun _ _ _ h => h) (Or.inl ⟨by rfl, fun W' hW => ?_⟩) hS ?_
          · go_simp
          (try simp only [Act.put, List.setIfInBounds_toArray, List.set_cons_zero, List.set_cons_succ])
          refine wpAnyH_take (i := 5) (oi := { dst := (some 29), op := (Op.load 23 (Operand.tmp 28)), type := 23, pos := "solo.go:25", after := #[{ on := 4, ground := Ground.data }, { on := 2, ground := Ground.guard }], guard := (some (2, false)) }) (v := .slice (some ⟨b, off, none⟩) l.length cap) rfl (by kernel_rfl) (by kernel_rfl) (by kernel_rfl) (fun _ _ _ h => h) (Or.inl ⟨by rfl, fun W' hW => ?_⟩) hS ?_
          · (have h1 := hW.c1; go_simp)
          (try simp only [Act.put, List.setIfInBounds_toArray, List.set_cons_zero, List.set_cons_succ])
          refine wpAnyH_take (i := 6) (oi := { dst := (some 30), op := (Op.call { callee := (Callee.builtin Builtin.len), args := #[(Operand.tmp 29)], argTypes := #[23] }), type := 3, pos := "solo.go:25", after := #[{ on := 5, ground := Ground.data }, { on := 2, ground := Ground.guard }], guard := (some (2, false)) }) (v := .int .i64 (l.length : Nat)) rfl (by kernel_rfl) (by kernel_rfl) (by kernel_rfl) (fun _ _ _ h => h) (Or.inl ⟨by rfl, fun W' hW => ?_⟩) hS ?_
          · go_simp
          (try simp only [Act.put, List.setIfInBounds_toArray, List.set_cons_zero, List.set_cons_succ])
          refine wpAnyH_take (i := 7) (oi := { dst := (some 31), op := (Op.binOp BinOp.geq 3 (Operand.tmp 27) (Operand.tmp 30) 3), type := 4, pos := "solo.go:25", after := #[{ on := 3, ground := Ground.data }, { on := 6, ground := Ground.data }, { on := 2, ground := Ground.guard }], guard := (some (2, false)) }) (v := .bool false) rfl (by kernel_rfl) (by kernel_rfl) (by kernel_rfl) (fun _ _ _ h => h) (Or.inl ⟨by rfl, fun W' hW => ?_⟩) hS ?_
          · go_simp
          (try simp only [Act.put, List.setIfInBounds_toArray, List.set_cons_zero, List.set_cons_succ])
          refine wpAnyH_take (i := 8) (oi := { dst := (some 32), op := (Op.pick (Operand.tmp 26) (Operand.const (Value.bool true)) (Operand.tmp 31)), type := 4, pos := "solo.go:25", after := #[{ on := 2, ground := Ground.data }, { on := 7, ground := Ground.data }], guard := none }) (v := .bool false) rfl (by kernel_rfl) (by kernel_rfl) (by kernel_rfl) (fun _ _ _ h => h) (Or.inl ⟨by rfl, fun W' hW => ?_⟩) hS ?_
          · go_simp
          (try simp only [Act.put, List.setIfInBounds_toArray, List.set_cons_zero, List.set_cons_succ])
          refine wpAnyH_take (i := 9) (oi := { dst := (some 33), op := (Op.move (Operand.tmp 32)), type := 4, pos := "solo.go:25", after := #[{ on := 8, ground := Ground.data }, { on := 2, ground := Ground.chain }], guard := none }) (v := .bool false) rfl (by kernel_rfl) (by kernel_rfl) (by kernel_rfl) (fun _ _ _ h => h) (Or.inl ⟨by rfl, fun W' hW => ?_⟩) hS ?_
          · go_simp
          (try simp only [Act.put, List.setIfInBounds_toArray, List.set_cons_zero, List.set_cons_succ])
          refine wpAnyH_take (i := 10) (oi := { dst := (some 34), op := (Op.move (Operand.tmp 10)), type := 37, pos := "solo.go:25", after := #[{ on := 9, ground := Ground.guard }], guard := (some (9, false)) }) (v := .pointer (some ⟨m.mb, 0, none⟩)) rfl (by kernel_rfl) (by kernel_rfl) (by kernel_rfl) (fun _ _ _ h => h) (Or.inl ⟨by rfl, fun W' hW => ?_⟩) hS ?_
          · go_simp
          (try simp only [Act.put, List.setIfInBounds_toArray, List.set_cons_zero, List.set_cons_succ])
          refine wpAnyH_take (i := 11) (oi := { dst := (some 35), op := (Op.move (Operand.tmp 1)), type := 3, pos := "solo.go:25", after := #[{ on := 9, ground := Ground.guard }], guard := (some (9, false)) }) (v := .int .i64 (i : Nat)) rfl (by kernel_rfl) (by kernel_rfl) (by kernel_rfl) (fun _ _ _ h => h) (Or.inl ⟨by rfl, fun W' hW => ?_⟩) hS ?_
          · go_simp
          (try simp only [Act.put, List.setIfInBounds_toArray, List.set_cons_zero, List.set_cons_succ])
          refine wpAnyH_take (i := 13) (oi := { dst := (some 37), op := (Op.fieldAddr 26 (Operand.tmp 3) 1), type := 0, pos := "solo.go:25", after := #[{ on := 9, ground := Ground.guard }], guard := (some (9, false)) }) (v := .pointer (some ⟨w.heap.size, 1, none⟩)) rfl (by kernel_rfl) (by kernel_rfl) (by kernel_rfl) (fun _ _ _ h => h) (Or.inl ⟨by rfl, fun W' hW => ?_⟩) hS ?_
          · go_simp
          (try simp only [Act.put, List.setIfInBounds_toArray, List.set_cons_zero, List.set_cons_succ])
          refine wpAnyH_take (i := 14) (oi := { dst := (some 38), op := (Op.load 23 (Operand.tmp 37)), type := 23, pos := "solo.go:25", after := #[{ on := 13, ground := Ground.data }, { on := 9, ground := Ground.guard }], guard := (some (9, false)) }) (v := .slice (some ⟨b, off, none⟩) l.length cap) rfl (by kernel_rfl) (by kernel_rfl) (by kernel_rfl) (fun _ _ _ h => h) (Or.inl ⟨by rfl, fun W' hW => ?_⟩) hS ?_
          · (have h1 := hW.c1; go_simp)
          (try simp only [Act.put, List.setIfInBounds_toArray, List.set_cons_zero, List.set_cons_succ])
          refine wpAnyH_take (i := 15) (oi := { dst := (some 39), op := (Op.move (Operand.tmp 1)), type := 3, pos := "solo.go:25", after := #[{ on := 9, ground := Ground.guard }], guard := (some (9, false)) }) (v := .int .i64 (i : Nat)) rfl (by kernel_rfl) (by kernel_rfl) (by kernel_rfl) (fun _ _ _ h => h) (Or.inl ⟨by rfl, fun W' hW => ?_⟩) hS ?_
          · go_simp
          (try simp only [Act.put, List.setIfInBounds_toArray, List.set_cons_zero, List.set_cons_succ])
          refine wpAnyH_take (i := 16) (oi := { dst := (some 40), op := (Op.indexAddr 23 (Operand.tmp 38) (Operand.tmp 39)), type := 0, pos := "solo.go:25", after := #[{ on := 14, ground := Ground.data }, { on := 15, ground := Ground.data }, { on := 9, ground := Ground.guard }], guard := (some (9, false)) }) (v := .pointer (some ⟨b, off + i, none⟩)) rfl (by kernel_rfl) (by kernel_rfl) (by kernel_rfl) (fun _ _ _ h => h) (Or.inl ⟨by rfl, fun W' hW => ?_⟩) hS ?_
          · go_simp
          (try simp only [Act.put, List.setIfInBounds_toArray, List.set_cons_zero, List.set_cons_succ])
          refine wpAnyH_take (i := 17) (oi := { dst := (some 41), op := (Op.load 27 (Operand.tmp 40)), type := 27, pos := "solo.go:25", after := #[{ on := 16, ground := Ground.data }, { on := 9, ground := Ground.guard }], guard := (some (9, false)) }) (v := .slice p' no cap') rfl (by kernel_rfl) (by kernel_rfl) (by kernel_rfl) (fun _ _ _ h => h) (Or.inl ⟨by rfl, fun W' hW => ?_⟩) hS ?_
          · (have h1 := hW.c2; go_simp)
          (try simp only [Act.put, List.setIfInBounds_toArray, List.set_cons_zero, List.set_cons_succ])
          refine wpAnyH_take (i := 18) (oi := { dst := (some 42), op := (Op.call { callee := (Callee.builtin Builtin.len), args := #[(Operand.tmp 41)], argTypes := #[27] }), type := 3, pos := "solo.go:25", after := #[{ on := 17, ground := Ground.data }, { on := 9, ground := Ground.guard }], guard := (some (9, false)) }) (v := .int .i64 (no : Nat)) rfl (by kernel_rfl) (by kernel_rfl) (by kernel_rfl) (fun _ _ _ h => h) (Or.inl ⟨by rfl, fun W' hW => ?_⟩) hS ?_
          · go_simp
          (try simp only [Act.put, List.setIfInBounds_toArray, List.set_cons_zero, List.set_cons_succ])
          refine wpAnyH_ready (rs := [12]) (by kernel_rfl) (by simp) ?_
          refine AllReadyH.cons (o := { dst := (some 36), op := (Op.call { callee := (Callee.value (Operand.func 10)), args := #[(Operand.tmp 34), (Operand.tmp 35)], argTypes := #[37, 3] }), type := 3, pos := "solo.go:25", after := #[{ on := 10, ground := Ground.data }, { on := 11, ground := Ground.data }, { on := 9, ground := Ground.chain }, { on := 9, ground := Ground.guard }], guard := (some (9, false)) }) rfl (fun K hK => ?_) AllReadyH.nil
          go_simp
          refine HR.out.mono ?_
          rintro e w4 ⟨rfl, hb4⟩
          have HB4 := Lib.hid hb4
          clear hb4
          refine hK.out _ _ ⟨cell_below hS.c1 HB4.out, cell_below hS.c2 HB4.out⟩ (fun hS => ?_)
          clear hK K
          (try simp only [Act.put, List.setIfInBounds_toArray, List.set_cons_zero, List.set_cons_succ])
          refine wpAnyH_take (i := 19) (oi := { dst := (some 43), op := (Op.binOp BinOp.geq 3 (Operand.tmp 36) (Operand.tmp 42) 3), type := 4, pos := "solo.go:25", after := #[{ on := 12, ground := Ground.data }, { on := 18, ground := Ground.data }, { on := 9, ground := Ground.guard }], guard := (some (9, false)) }) (v := .bool true) rfl (by kernel_rfl) (by kernel_rfl) (by kernel_rfl) (fun _ _ _ h => h) (Or.inl ⟨by rfl, fun W' hW => ?_⟩) hS ?_
          · go_simp
          (try simp only [Act.put, List.setIfInBounds_toArray, List.set_cons_zero, List.set_cons_succ])
          refine wpAnyH_take (i := 20) (oi := { dst := (some 44), op := (Op.pick (Operand.tmp 33) (Operand.const (Value.bool true)) (Operand.tmp 43)), type := 4, pos := "solo.go:25", after := #[{ on := 9, ground := Ground.data }, { on := 19, ground := Ground.data }], guard := none }) (v := .bool true) rfl (by kernel_rfl) (by kernel_rfl) (by kernel_rfl) (fun _ _ _ h => h) (Or.inl ⟨by rfl, fun W' hW => ?_⟩) hS ?_
          · go_simp
          (try simp only [Act.put, List.setIfInBounds_toArray, List.set_cons_zero, List.set_cons_succ])
          refine wpAnyH_done (by kernel_rfl) ?_ _
          go_wp2_with fail
          refine bodyPost_ret (results_tmp4 Tryz.results4 _ _) rfl ?_
          rw [HE.out]
          exact ⟨rfl, below_then HB0.out (by omega) (below_then (Below.drew HZ3.out.toBelow) HZ3.out.le HB4.out)⟩
        · have HE : Hid (rr = (((aloneM (i : Nat) most.toNat false (startM l pk)).1.st.acc : Int) - ((startM l pk).st.acc : Int), ((aloneM (i : Nat) most.toNat false (startM l pk)).1.st.nodes : Int) - ((startM l pk).st.nodes : Int), (aloneM (i : Nat) most.toNat false (startM l pk)).2, 0)) := by
            show _ = _
            rw [← HRR.out]; unfold soloRunC
            rw [if_neg (by rw [HCC.out]; simp), if_neg (by rw [hL]; simpa using q4)]
          clear hos hL hno
          go_wp2_with fail
          refine wp_region_held_drew (S := fun W' => LateS w l i b off no p' cap cap' W') (by kernel_rfl) ⟨s1, hco⟩ (fun hS => ?_)
          refine wpAnyH_take (i := 0) (oi := { dst := (some 24), op := (Op.move (Operand.tmp 1)), type := 3, pos := "solo.go:25", after := #[], guard := none }) (v := .int .i64 (i : Nat)) rfl (by kernel_rfl) (by kernel_rfl) (by kernel_rfl) (fun _ _ _ h => h) (Or.inl ⟨by rfl, fun W' hW => ?_⟩) hS ?_
          · go_simp
          (try simp only [Act.put, List.setIfInBounds_toArray, List.set_cons_zero, List.set_cons_succ])
          refine wpAnyH_take (i := 1) (oi := { dst := (some 25), op := (Op.binOp BinOp.lss 3 (Operand.tmp 24) (Operand.const (Value.int IntKind.i64 0)) 3), type := 4, pos := "solo.go:25", after := #[{ on := 0, ground := Ground.data }], guard := none }) (v := .bool false) rfl (by kernel_rfl) (by kernel_rfl) (by kernel_rfl) (fun _ _ _ h => h) (Or.inl ⟨by rfl, fun W' hW => ?_⟩) hS ?_
          · go_simp
          (try simp only [Act.put, List.setIfInBounds_toArray, List.set_cons_zero, List.set_cons_succ])
          refine wpAnyH_take (i := 2) (oi := { dst := (some 26), op := (Op.move (Operand.tmp 25)), type := 4, pos := "solo.go:25", after := #[{ on := 1, ground := Ground.data }], guard := none }) (v := .bool false) rfl (by kernel_rfl) (by kernel_rfl) (by kernel_rfl) (fun _ _ _ h => h) (Or.inl ⟨by rfl, fun W' hW => ?_⟩) hS ?_
          · go_simp
          (try simp only [Act.put, List.setIfInBounds_toArray, List.set_cons_zero, List.set_cons_succ])
          refine wpAnyH_take (i := 3) (oi := { dst := (some 27), op := (Op.move (Operand.tmp 1)), type := 3, pos := "solo.go:25", after := #[{ on := 2, ground := Ground.guard }], guard := (some (2, false)) }) (v := .int .i64 (i : Nat)) rfl (by kernel_rfl) (by kernel_rfl) (by kernel_rfl) (fun _ _ _ h => h) (Or.inl ⟨by rfl, fun W' hW => ?_⟩) hS ?_
          · go_simp
          (try simp only [Act.put, List.setIfInBounds_toArray, List.set_cons_zero, List.set_cons_succ])
          refine wpAnyH_take (i := 4) (oi := { dst := (some 28), op := (Op.fieldAddr 26 (Operand.tmp 3) 1), type := 0, pos := "solo.go:25", after := #[{ on := 2, ground := Ground.guard }], guard := (some (2, false)) }) (v := .pointer (some ⟨w.heap.size, 1, none⟩)) rfl (by kernel_rfl) (by kernel_rfl) (by kernel_rfl) (fun _ _ _ h => h) (Or.inl ⟨by rfl, fun W' hW => ?_⟩) hS ?_
          · go_simp
          (try simp only [Act.put, List.setIfInBounds_toArray, List.set_cons_zero, List.set_cons_succ])
          refine wpAnyH_take (i := 5) (oi := { dst := (some 29), op := (Op.load 23 (Operand.tmp 28)), type := 23, pos := "solo.go:25", after := #[{ on := 4, ground := Ground.data }, { on := 2, ground := Ground.guard }], guard := (some (2, false)) }) (v := .slice (some ⟨b, off, none⟩) l.length cap) rfl (by kernel_rfl) (by kernel_rfl) (by kernel_rfl) (fun _ _ _ h => h) (Or.inl ⟨by rfl, fun W' hW => ?_⟩) hS ?_
          · (have h1 := hW.c1; go_simp)
          (try simp only [Act.put, List.setIfInBounds_toArray, List.set_cons_zero, List.set_cons_succ])
          refine wpAnyH_take (i := 6) (oi := { dst := (some 30), op := (Op.call { callee := (Callee.builtin Builtin.len), args := #[(Operand.tmp 29)], argTypes := #[23] }), type := 3, pos := "solo.go:25", after := #[{ on := 5, ground := Ground.data }, { on := 2, ground := Ground.guard }], guard := (some (2, false)) }) (v := .int .i64 (l.length : Nat)) rfl (by kernel_rfl) (by kernel_rfl) (by kernel_rfl) (fun _ _ _ h => h) (Or.inl ⟨by rfl, fun W' hW => ?_⟩) hS ?_
          · go_simp
          (try simp only [Act.put, List.setIfInBounds_toArray, List.set_cons_zero, List.set_cons_succ])
          refine wpAnyH_take (i := 7) (oi := { dst := (some 31), op := (Op.binOp BinOp.geq 3 (Operand.tmp 27) (Operand.tmp 30) 3), type := 4, pos := "solo.go:25", after := #[{ on := 3, ground := Ground.data }, { on := 6, ground := Ground.data }, { on := 2, ground := Ground.guard }], guard := (some (2, false)) }) (v := .bool false) rfl (by kernel_rfl) (by kernel_rfl) (by kernel_rfl) (fun _ _ _ h => h) (Or.inl ⟨by rfl, fun W' hW => ?_⟩) hS ?_
          · go_simp
          (try simp only [Act.put, List.setIfInBounds_toArray, List.set_cons_zero, List.set_cons_succ])
          refine wpAnyH_take (i := 8) (oi := { dst := (some 32), op := (Op.pick (Operand.tmp 26) (Operand.const (Value.bool true)) (Operand.tmp 31)), type := 4, pos := "solo.go:25", after := #[{ on := 2, ground := Ground.data }, { on := 7, ground := Ground.data }], guard := none }) (v := .bool false) rfl (by kernel_rfl) (by kernel_rfl) (by kernel_rfl) (fun _ _ _ h => h) (Or.inl ⟨by rfl, fun W' hW => ?_⟩) hS ?_
          · go_simp
          (try simp only [Act.put, List.setIfInBounds_toArray, List.set_cons_zero, List.set_cons_succ])
          refine wpAnyH_take (i := 9) (oi := { dst := (some 33), op := (Op.move (Operand.tmp 32)), type := 4, pos := "solo.go:25", after := #[{ on := 8, ground := Ground.data }, { on := 2, ground := Ground.chain }], guard := none }) (v := .bool false) rfl (by kernel_rfl) (by kernel_rfl) (by kernel_rfl) (fun _ _ _ h => h) (Or.inl ⟨by rfl, fun W' hW => ?_⟩) hS ?_
          · go_simp
          (try simp only [Act.put, List.setIfInBounds_toArray, List.set_cons_zero, List.set_cons_succ])
          refine wpAnyH_take (i := 10) (oi := { dst := (some 34), op := (Op.move (Operand.tmp 10)), type := 37, pos := "solo.go:25", after := #[{ on := 9, ground := Ground.guard }], guard := (some (9, false)) }) (v := .pointer (some ⟨m.mb, 0, none⟩)) rfl (by kernel_rfl) (by kernel_rfl) (by kernel_rfl) (fun _ _ _ h => h) (Or.inl ⟨by rfl, fun W' hW => ?_⟩) hS ?_
          · go_simp
          (try simp only [Act.put, List.setIfInBounds_toArray, List.set_cons_zero, List.set_cons_succ])
          refine wpAnyH_take (i := 11) (oi := { dst := (some 35), op := (Op.move (Operand.tmp 1)), type := 3, pos := "solo.go:25", after := #[{ on := 9, ground := Ground.guard }], guard := (some (9, false)) }) (v := .int .i64 (i : Nat)) rfl (by kernel_rfl) (by kernel_rfl) (by kernel_rfl) (fun _ _ _ h => h) (Or.inl ⟨by rfl, fun W' hW => ?_⟩) hS ?_
          · go_simp
          (try simp only [Act.put, List.setIfInBounds_toArray, List.set_cons_zero, List.set_cons_succ])
          refine wpAnyH_take (i := 13) (oi := { dst := (some 37), op := (Op.fieldAddr 26 (Operand.tmp 3) 1), type := 0, pos := "solo.go:25", after := #[{ on := 9, ground := Ground.guard }], guard := (some (9, false)) }) (v := .pointer (some ⟨w.heap.size, 1, none⟩)) rfl (by kernel_rfl) (by kernel_rfl) (by kernel_rfl) (fun _ _ _ h => h) (Or.inl ⟨by rfl, fun W' hW => ?_⟩) hS ?_
          · go_simp
          (try simp only [Act.put, List.setIfInBounds_toArray, List.set_cons_zero, List.set_cons_succ])
          refine wpAnyH_take (i := 14) (oi := { dst := (some 38), op := (Op.load 23 (Operand.tmp 37)), type := 23, pos := "solo.go:25", after := #[{ on := 13, ground := Ground.data }, { on := 9, ground := Ground.guard }], guard := (some (9, false)) }) (v := .slice (some ⟨b, off, none⟩) l.length cap) rfl (by kernel_rfl) (by kernel_rfl) (by kernel_rfl) (fun _ _ _ h => h) (Or.inl ⟨by rfl, fun W' hW => ?_⟩) hS ?_
          · (have h1 := hW.c1; go_simp)
          (try simp only [Act.put, List.setIfInBounds_toArray, List.set_cons_zero, List.set_cons_succ])
          refine wpAnyH_take (i := 15) (oi := { dst := (some 39), op := (Op.move (Operand.tmp 1)), type := 3, pos := "solo.go:25", after := #[{ on := 9, ground := Ground.guard }], guard := (some (9, false)) }) (v := .int .i64 (i : Nat)) rfl (by kernel_rfl) (by kernel_rfl) (by kernel_rfl) (fun _ _ _ h => h) (Or.inl ⟨by rfl, fun W' hW => ?_⟩) hS ?_
          · go_simp
          (try simp only [Act.put, List.setIfInBounds_toArray, List.set_cons_zero, List.set_cons_succ])
          refine wpAnyH_take (i := 16) (oi := { dst := (some 40), op := (Op.indexAddr 23 (Operand.tmp 38) (Operand.tmp 39)), type := 0, pos := "solo.go:25", after := #[{ on := 14, ground := Ground.data }, { on := 15, ground := Ground.data }, { on := 9, ground := Ground.guard }], guard := (some (9, false)) }) (v := .pointer (some ⟨b, off + i, none⟩)) rfl (by kernel_rfl) (by kernel_rfl) (by kernel_rfl) (fun _ _ _ h => h) (Or.inl ⟨by rfl, fun W' hW => ?_⟩) hS ?_
          · go_simp
          (try simp only [Act.put, List.setIfInBounds_toArray, List.set_cons_zero, List.set_cons_succ])
          refine wpAnyH_take (i := 17) (oi := { dst := (some 41), op := (Op.load 27 (Operand.tmp 40)), type := 27, pos := "solo.go:25", after := #[{ on := 16, ground := Ground.data }, { on := 9, ground := Ground.guard }], guard := (some (9, false)) }) (v := .slice p' no cap') rfl (by kernel_rfl) (by kernel_rfl) (by kernel_rfl) (fun _ _ _ h => h) (Or.inl ⟨by rfl, fun W' hW => ?_⟩) hS ?_
          · (have h1 := hW.c2; go_simp)
          (try simp only [Act.put, List.setIfInBounds_toArray, List.set_cons_zero, List.set_cons_succ])
          refine wpAnyH_take (i := 18) (oi := { dst := (some 42), op := (Op.call { callee := (Callee.builtin Builtin.len), args := #[(Operand.tmp 41)], argTypes := #[27] }), type := 3, pos := "solo.go:25", after := #[{ on := 17, ground := Ground.data }, { on := 9, ground := Ground.guard }], guard := (some (9, false)) }) (v := .int .i64 (no : Nat)) rfl (by kernel_rfl) (by kernel_rfl) (by kernel_rfl) (fun _ _ _ h => h) (Or.inl ⟨by rfl, fun W' hW => ?_⟩) hS ?_
          · go_simp
          (try simp only [Act.put, List.setIfInBounds_toArray, List.set_cons_zero, List.set_cons_succ])
          refine wpAnyH_ready (rs := [12]) (by kernel_rfl) (by simp) ?_
          refine AllReadyH.cons (o := { dst := (some 36), op := (Op.call { callee := (Callee.value (Operand.func 10)), args := #[(Operand.tmp 34), (Operand.tmp 35)], argTypes := #[37, 3] }), type := 3, pos := "solo.go:25", after := #[{ on := 10, ground := Ground.data }, { on := 11, ground := Ground.data }, { on := 9, ground := Ground.chain }, { on := 9, ground := Ground.guard }], guard := (some (9, false)) }) rfl (fun K hK => ?_) AllReadyH.nil
          go_simp
          refine HR.out.mono ?_
          rintro e w4 ⟨rfl, hb4⟩
          have HB4 := Lib.hid hb4
          clear hb4
          refine hK.out _ _ ⟨cell_below hS.c1 HB4.out, cell_below hS.c2 HB4.out⟩ (fun hS => ?_)
          clear hK K
          (try simp only [Act.put, List.setIfInBounds_toArray, List.set_cons_zero, List.set_cons_succ])
          refine wpAnyH_take (i := 19) (oi := { dst := (some 43), op := (Op.binOp BinOp.geq 3 (Operand.tmp 36) (Operand.tmp 42) 3), type := 4, pos := "solo.go:25", after := #[{ on := 12, ground := Ground.data }, { on := 18, ground := Ground.data }, { on := 9, ground := Ground.guard }], guard := (some (9, false)) }) (v := .bool false) rfl (by kernel_rfl) (by kernel_rfl) (by kernel_rfl) (fun _ _ _ h => h) (Or.inl ⟨by rfl, fun W' hW => ?_⟩) hS ?_
          · go_simp
          (try simp only [Act.put, List.setIfInBounds_toArray, List.set_cons_zero, List.set_cons_succ])
          refine wpAnyH_take (i := 20) (oi := { dst := (some 44), op := (Op.pick (Operand.tmp 33) (Operand.const (Value.bool true)) (Operand.tmp 43)), type := 4, pos := "solo.go:25", after := #[{ on := 9, ground := Ground.data }, { on := 19, ground := Ground.data }], guard := none }) (v := .bool false) rfl (by kernel_rfl) (by kernel_rfl) (by kernel_rfl) (fun _ _ _ h => h) (Or.inl ⟨by rfl, fun W' hW => ?_⟩) hS ?_
          · go_simp
          (try simp only [Act.put, List.setIfInBounds_toArray, List.set_cons_zero, List.set_cons_succ])
          refine wpAnyH_done (by kernel_rfl) ?_ _
          have HZ4 := Lib.hid ((HZ3.out.below (Below.drew0 w3)).below HB4.out)
          have HCT := Lib.hid (HZ4.out.counts INV3.out)
          obtain ⟨M0, hM0⟩ : ∃ M, startM l pk = M := ⟨_, rfl⟩
          rw [hM0] at HZ4 HCT INV3 HE
          clear hM0
          obtain ⟨acc0, hacc⟩ : ∃ a, M0.st.acc = a := ⟨_, rfl⟩
          obtain ⟨nds0, hnds⟩ : ∃ a, M0.st.nodes = a := ⟨_, rfl⟩
          rw [hacc, hnds] at HCT HE
          have ha0 : acc0 ≤ 274877906944 := by have := INV3.out.fin.room; unfold Ct.St.size at this; omega
          have hn0 : nds0 ≤ 274877906946 := by have := INV3.out.fin.room; unfold Ct.St.size at this; unfold Ct.St.nodes at hnds; omega
          clear hacc hnds
          go_wp2_with fail
          refine HCT.out.mono ?_
          rintro e w5 ⟨rfl, hb5⟩
          have HZ5 := Lib.hid (HZ4.out.below hb5)
          clear hb5
          go_wp2_with fail
          go_loopw [2, 8] (fun mo re wr => ∃ (k : Nat) (r : Bool) (M : Ct.Mach), re = .bool r ∧ k ≤ most.toNat ∧ mo = .int .i64 (most - (most.toNat : Int) + (k : Nat)) ∧ MachZ W1.heap.size W1 wr m vpk (pk.map (pickOf l.length)) M ∧ MInv k M ∧ aloneM (i : Nat) most.toNat false M0 = aloneM (i : Nat) k r M) (fun mo _ _ => (intOf mo - (most - (most.toNat : Int))).toNat)
          case atStart => exact ⟨most.toNat, false, M0, rfl, Nat.le_refl _, by congr 1; omega, HZ5.out, INV3.out, rfl⟩
          case round =>
            obtain ⟨k, r, M, rfl, hkm, rfl, hz, hi, he⟩ := hrel
            have HZ := Lib.hid hz; have HI := Lib.hid hi; have HEE := Lib.hid he; have HKM := Lib.hid hkm
            clear hz hi he
            obtain ⟨x, hx⟩ : ∃ x, most - (most.toNat : Int) + (k : Nat) = x := ⟨_, rfl⟩
            rw [hx]
            have HX := Lib.hid hx
            have hxl : x ≤ 9223372036854775807 := by omega
            have hxg : -9223372036854775808 ≤ x := by omega
            by_cases q5 : k = 0 ∨ r = true
            · have HE2 : Hid (rr = ((M.st.acc : Int) - acc0, (M.st.nodes : Int) - nds0, r, 0)) := by
                show _ = _
                have e1 : aloneM (i : Nat) most.toNat false M0 = (M, r) := by
                  rw [HEE.out]
                  rcases q5 with q5 | q5
                  · subst q5; rfl
                  · subst q5; cases k <;> simp [aloneM]
                rw [HE.out, e1]
              have q6 : (decide (0 < x) && !r) = false := by
                rcases q5 with q5 | q5
                · have : ¬ 0 < x := by subst q5; omega
                  simp [this]
                · simp [q5]
              clear hx q5 hkm
              cases r
              · have q7 : ¬ 0 < x := by simpa using q6
                clear q6
                have HCT2 := Lib.hid (HZ.out.counts HI.out)
                obtain ⟨acc1, hacc⟩ : ∃ a, M.st.acc = a := ⟨_, rfl⟩
                obtain ⟨nds1, hnds⟩ : ∃ a, M.st.nodes = a := ⟨_, rfl⟩
                rw [hacc, hnds] at HCT2 HE2
                have ha1 : acc1 ≤ 274877906944 := by have := HI.out.fin.room; unfold Ct.St.size at this; omega
                have hn1 : nds1 ≤ 274877906946 := by have := HI.out.fin.room; unfold Ct.St.size at this; unfold Ct.St.nodes at hnds; omega
                clear hacc hnds
                go_wp2_with fail
                refine HCT2.out.mono ?_
                rintro e w6 ⟨rfl, hb6⟩
                have HZ6 := Lib.hid (HZ.out.below hb6)
                clear hb6
                go_wp2_with fail
                refine bodyPost_ret (results_tmp4 Tryz.results4 _ _) rfl ?_
                rw [HE2.out]
                exact ⟨rfl, below_then HB0.out (by omega) HZ6.out.toBelow⟩
              · clear q6
                by_cases q7 : 0 < x
                · skip
                  have HCT2 := Lib.hid (HZ.out.counts HI.out)
                  obtain ⟨acc1, hacc⟩ : ∃ a, M.st.acc = a := ⟨_, rfl⟩
                  obtain ⟨nds1, hnds⟩ : ∃ a, M.st.nodes = a := ⟨_, rfl⟩
                  rw [hacc, hnds] at HCT2 HE2
                  have ha1 : acc1 ≤ 274877906944 := by have := HI.out.fin.room; unfold Ct.St.size at this; omega
                  have hn1 : nds1 ≤ 274877906946 := by have := HI.out.fin.room; unfold Ct.St.size at this; unfold Ct.St.nodes at hnds; omega
                  clear hacc hnds
                  go_wp2_with fail
                  refine HCT2.out.mono ?_
                  rintro e w6 ⟨rfl, hb6⟩
                  have HZ6 := Lib.hid (HZ.out.below hb6)
                  clear hb6
                  go_wp2_with fail
                  refine bodyPost_ret (results_tmp4 Tryz.results4 _ _) rfl ?_
                  rw [HE2.out]
                  exact ⟨rfl, below_then HB0.out (by omega) HZ6.out.toBelow⟩
                · skip
                  have HCT2 := Lib.hid (HZ.out.counts HI.out)
                  obtain ⟨acc1, hacc⟩ : ∃ a, M.st.acc = a := ⟨_, rfl⟩
                  obtain ⟨nds1, hnds⟩ : ∃ a, M.st.nodes = a := ⟨_, rfl⟩
                  rw [hacc, hnds] at HCT2 HE2
                  have ha1 : acc1 ≤ 274877906944 := by have := HI.out.fin.room; unfold Ct.St.size at this; omega
                  have hn1 : nds1 ≤ 274877906946 := by have := HI.out.fin.room; unfold Ct.St.size at this; unfold Ct.St.nodes at hnds; omega
                  clear hacc hnds
                  go_wp2_with fail
                  refine HCT2.out.mono ?_
                  rintro e w6 ⟨rfl, hb6⟩
                  have HZ6 := Lib.hid (HZ.out.below hb6)
                  clear hb6
                  go_wp2_with fail
                  refine bodyPost_ret (results_tmp4 Tryz.results4 _ _) rfl ?_
                  rw [HE2.out]
                  exact ⟨rfl, below_then HB0.out (by omega) HZ6.out.toBelow⟩
            · obtain ⟨k', rfl⟩ : ∃ k', k = k' + 1 := ⟨k - 1, by omega⟩
              obtain rfl : r = false := by cases r <;> simp_all
              have q7 : 0 < x := by omega
              have HPK := Lib.hid (soloPick_any wr m vpk _ M (i : Nat) HZ.out HI.out)
              have HI2 := Lib.hid (HI.out.pick (i : Nat))
              have HEE2 : Hid (aloneM (i : Nat) most.toNat false M0 = aloneM (i : Nat) k' (pickB (i : Nat) M).2.2 (pickB (i : Nat) M).1) := by show _ = _; rw [HEE.out]; simp [aloneM]
              have HM2 : Hid ((pickB (i : Nat) M).1 = (pickM (i : Nat) M).1) := rfl
              obtain ⟨b3, hb3⟩ : ∃ b, (pickB (i : Nat) M).2.1 = b := ⟨_, rfl⟩
              obtain ⟨b4, hb4⟩ : ∃ b, (pickB (i : Nat) M).2.2 = b := ⟨_, rfl⟩
              obtain ⟨M4, hM4⟩ : ∃ b, (pickB (i : Nat) M).1 = b := ⟨_, rfl⟩
              rw [hb3, hb4, hM4] at HPK
              rw [hb4, hM4] at HEE2
              rw [hM4] at HM2
              clear hx q5 hkm hb3 hb4 hM4
              go_wp2_with fail
              refine HPK.out.mono ?_
              rintro e w6 ⟨rfl, hz6⟩
              have HZ6 := Lib.hid hz6
              clear hz6
              go_wp2_with fail
              go_roundw
              case rel => exact ⟨k', b4, M4, rfl, by have := HKM.out; omega, by congr 1; have := HX.out; omega, HZ6.out, by rw [HM2.out]; exact HI2.out, HEE2.out⟩
              case measure => have := HX.out; simp [intOf]; omega
  · have HNEW2 : Hid (Calls Tryz.prog 8 #[.agg #[.int .u64 (mask : Nat), .slice p l.length cap, .slice q pk.length cq]] W1 fun e w' => e = .returned (.tuple #[.pointer none, .int .i64 cc]) ∧ Below W1.heap.size W1 w') := HNEW.out.mono fun e w' h => by rw [if_neg (by rw [hcc]; exact hc0), hcc] at h; exact h
    have HE : Hid (rr = (0, 0, false, cc)) := by
      show _ = _
      rw [← HRR.out]; unfold soloRunC
      rw [HCC.out, if_pos hc0]
    have hc1 : (cc == 0) = false := by simpa using hc0
    clear h1 h2 hf hg hb0 hat0 hW1 hk hn hcc HNEW hrr
    go_enter Tryz.func4, Tryz.ntmps4
    go_wp2_with fail
    refine (with_world HW1.out HNEW2.out).mono ?_
    rintro e w2 ⟨rfl, hb⟩
    have HB2 := Lib.hid hb
    clear hb
    go_wp2_with fail
    refine bodyPost_ret (results_tmp4 Tryz.results4 _ _) rfl ?_
    rw [HE.out]
    exact ⟨rfl, below_then HB0.out (by omega) HB2.out⟩
end Go.Proofs.YtifehcegnofpkaaGreatDoor

namespace Go.Proofs.YtifehcegnofpkaaGreatDoor
open Go.RowKit
set_option linter.unusedVariables false

theorem info_int : (Tryz.prog.info? 3).map (fun i => (i.zero, i.size, i.bytes)) = some (some (.int .i64 0), 1, 8) := by kernel_rfl

def GapRes (w : World) (r : Int × Int) (e : Ending) (w' : World) : Prop := e = .returned (.tuple #[.int .i64 r.1, .int .i64 r.2]) ∧ Below w.heap.size w w'

set_option maxRecDepth 100000 in
set_option maxHeartbeats 1600000 in
theorem gap_any (N0 : Nat → Prop) (w : World) (mask : Nat) (vths vpk : Value) (l : List (List Ct.Op)) (pk : List Int) (h1 : ThreadsAt N0 w vths l) (h2 : PicksAt N0 w vpk pk) (hk : KindsOk l) (hn : pk.length ≤ 400000) :
    Calls Tryz.prog 5 #[.agg #[.int .u64 (mask : Nat), vths, vpk]] w (GapRes w (gapC l pk)) := by
  obtain ⟨p, cap, rfl, hm, hf⟩ := h1.form
  obtain ⟨q, cq, rfl, hmq, hg⟩ := RowAt.form h2 (by simp)
  have hb0 := (Below.refl w.heap.size w).alloc (Nat.le_refl _) (.cells #[.int .u64 (mask : Nat), .slice p l.length cap, .slice q pk.length cq] 26)
  have hat0 := heap_alloc_at w (.cells #[.int .u64 (mask : Nat), .slice p l.length cap, .slice q pk.length cq] 26)
  have HNEW := Lib.hid (schedNew_any N0 (w.alloc (.cells #[.int .u64 (mask : Nat), .slice p l.length cap, .slice q pk.length cq] 26)) mask _ _ l pk (h1.below hb0) (h2.below hb0))
  have hlt1 : w.heap.size < (w.alloc (.cells #[.int .u64 (mask : Nat), .slice p l.length cap, .slice q pk.length cq] 26)).heap.size := by simp
  obtain ⟨W1, hW1⟩ : ∃ W, w.alloc (.cells #[.int .u64 (mask : Nat), .slice p l.length cap, .slice q pk.length cq] 26) = W := ⟨_, rfl⟩
  rw [hW1] at hb0 hat0 HNEW hlt1
  have HSC : Hid (∀ W, Keep (fun k => W1.heap.size ≤ k) W1 W → W.cell? ⟨w.heap.size, 2, none⟩ = some (.slice q pk.length cq)) := fun W k => k.cell (cell_at hat0 2) (by simp; omega)
  have HPK : Hid (∀ W, Keep (fun k => W1.heap.size ≤ k) W1 W → ∀ (i : Nat) x, pk[i]? = some x → ∃ b off, q = some ⟨b, off, none⟩ ∧ W.cell? ⟨b, off + i, none⟩ = some (.int .i64 x)) := fun W k i x hi => by
    obtain ⟨b, off, e, hb, hc⟩ := hg i _ (by rw [List.getElem?_map, hi]; rfl)
    exact ⟨b, off, e, k.cell (cell_below hc hb0) (by simp; omega)⟩
  have HB0 := Lib.hid hb0; have HW1 := Lib.hid hW1
  obtain ⟨cc, hcc⟩ : ∃ c, checkC l pk.length = c := ⟨_, rfl⟩
  have HCC := Lib.hid hcc
  unfold NewMRes at HNEW
  obtain ⟨rr, hrr⟩ : ∃ r, gapC l pk = r := ⟨_, rfl⟩
  have HRR := Lib.hid hrr
  rw [hrr]
  by_cases hc0 : cc = 0
  · subst hc0
    have HNEW2 : Hid (Calls Tryz.prog 8 #[.agg #[.int .u64 (mask : Nat), .slice p l.length cap, .slice q pk.length cq]] W1 fun e w' => ∃ m vpk, e = .returned (.tuple #[.pointer (some ⟨m.mb, 0, none⟩), .int .i64 0]) ∧ m.mask = mask ∧ MachZ W1.heap.size W1 w' m vpk (pk.map (pickOf l.length)) (newM l)) := HNEW.out.mono fun e w' h => by rw [if_pos hcc] at h; exact h
    have inv0 : MInv pk.length (newM l) := MInv.new hcc hk (by omega)
    have INV0 := Lib.hid inv0
    have HE : Hid (rr = (gapL pk (0, 0) (newM l), 0)) := by show _ = _; rw [← hrr]; unfold gapC; rw [if_neg (by rw [hcc]; simp)]
    clear h1 h2 hf hg hb0 hat0 hW1 hk hcc HNEW inv0 hrr
    go_enter Tryz.func5, Tryz.ntmps5
    go_wp2_with fail
    refine (with_world HW1.out HNEW2.out).mono ?_
    rintro e w2 ⟨m, vpk, rfl, hmk, hz⟩
    have s2 := HSC.out w2 hz.keep
    have HZ := Lib.hid hz
    clear hz HNEW2
    go_wp2_with fail
    go_loopw [6, 7, 23] (fun gr ro v wr => ∃ (k : Nat) (a b : Nat) (M : Ct.Mach), gr = .int .i64 (a : Nat) ∧ ro = .int .i64 (b : Nat) ∧ v = .int .i64 k ∧ k ≤ pk.length ∧ a ≤ k ∧ b ≤ k ∧ MachZ W1.heap.size W1 wr m vpk (pk.map (pickOf l.length)) M ∧ MInv (pk.length - k) M ∧ gapL pk (0, 0) (newM l) = gapL (pk.drop k) ((a : Nat), (b : Nat)) M) (fun _ _ v _ => pk.length - (intOf v).toNat)
    case atStart => exact ⟨0, 0, 0, newM l, rfl, rfl, rfl, Nat.zero_le _, Nat.le_refl _, Nat.le_refl _, HZ.out, INV0.out, rfl⟩
    case round =>
      obtain ⟨k, a, b, M, rfl, rfl, rfl, hkp, hak, hbk, hz, hi, he⟩ := hrel
      by_cases hlt : k < pk.length
      · obtain ⟨x, hx⟩ : ∃ x, pk[k]? = some x := ⟨_, List.getElem?_eq_getElem hlt⟩
        obtain ⟨bb, off, rfl, hxc⟩ := HPK.out _ hz.keep k x hx
        have hi' : MInv (pk.length - (k + 1) + 1) M := by
          have : pk.length - k = pk.length - (k + 1) + 1 := by omega
          rw [← this]; exact hi
        have HPI := Lib.hid (soloPick_any wr m vpk _ M x hz hi')
        have HI2 := Lib.hid (hi'.pick x)
        have HGE : Hid (gapL pk (0, 0) (newM l) = gapL (pk.drop (k + 1)) (if (pickB x M).2.2 = true then ((a : Int), 0) else if (pickB x M).2.1 = true then (max (a : Int) ((b : Int) + 1), (b : Int) + 1) else ((a : Int), (b : Int))) (pickB x M).1) := by
          show _ = _
          rw [he, List.drop_eq_getElem_cons hlt]
          have : pk[k] = x := by rw [List.getElem?_eq_getElem hlt] at hx; injection hx
          rw [this]; rfl
        have HM2 : Hid ((pickB x M).1 = (pickM x M).1) := rfl
        have HK1 : Hid (k + 1 ≤ pk.length) := hlt
        have HEF : Hid ((pickB x M).2.1 = false → (pickB x M).2.2 = false) := fun h => by
          have h' : (pickM x M).2 = false := h
          show ((pickM x M).2 && _) = false
          rw [h']; rfl
        obtain ⟨b3, hb3⟩ : ∃ b, (pickB x M).2.1 = b := ⟨_, rfl⟩
        obtain ⟨b4, hb4⟩ : ∃ b, (pickB x M).2.2 = b := ⟨_, rfl⟩
        obtain ⟨M4, hM4⟩ : ∃ b, (pickB x M).1 = b := ⟨_, rfl⟩
        rw [hb3, hb4, hM4] at HPI HGE
        rw [hb3, hb4] at HEF
        rw [hM4] at HM2
        clear hz hi hi' he hx hb3 hb4 hM4
        go_wp2_with fail
        refine HPI.out.mono ?_
        rintro e w6 ⟨rfl, hz6⟩
        have HZ6 := Lib.hid hz6
        clear hz6
        cases b4
        · cases b3
          · go_wp2_with fail
            go_roundw
            case rel => exact ⟨k + 1, a, b, M4, rfl, rfl, by go_num, HK1.out, by omega, by omega, HZ6.out, by rw [HM2.out]; exact HI2.out, HGE.out⟩
            case measure => have := HK1.out; simp [intOf]; omega
          · go_wp2_with fail
            go_roundw
            case rel =>
              have e : (((max a (b + 1) : Nat) : Int), ((b + 1 : Nat) : Int)) = (max (a : Int) ((b : Int) + 1), (b : Int) + 1) := by rw [Prod.mk.injEq]; constructor <;> omega
              refine ⟨k + 1, max a (b + 1), b + 1, M4, ?_, by go_num, by go_num, HK1.out, by omega, by omega, HZ6.out, by rw [HM2.out]; exact HI2.out, by rw [e]; exact HGE.out⟩
              congr 1
              split <;> omega
            case measure => have := HK1.out; simp [intOf]; omega
        · go_wp2_with fail
          go_roundw
          case rel => exact ⟨k + 1, a, 0, M4, rfl, rfl, by go_num, HK1.out, by omega, by omega, HZ6.out, by rw [HM2.out]; exact HI2.out, HGE.out⟩
          case measure => have := HK1.out; simp [intOf]; omega
      · have hk2 : k = pk.length := by omega
        have HE2 : Hid (rr = ((a : Int), 0)) := by
          show _ = _
          rw [HE.out, he, hk2, List.drop_length]; rfl
        have HZ6 := Lib.hid hz
        clear hz hi he
        go_wp2_with fail
        refine bodyPost_ret (results_tmp2 Tryz.results5 _ _) rfl ?_
        rw [HE2.out]
        exact ⟨rfl, below_then HB0.out (by omega) HZ6.out.toBelow⟩
  · have HNEW2 : Hid (Calls Tryz.prog 8 #[.agg #[.int .u64 (mask : Nat), .slice p l.length cap, .slice q pk.length cq]] W1 fun e w' => e = .returned (.tuple #[.pointer none, .int .i64 cc]) ∧ Below W1.heap.size W1 w') := HNEW.out.mono fun e w' h => by rw [if_neg (by rw [hcc]; exact hc0), hcc] at h; exact h
    have HE : Hid (rr = (0, cc)) := by
      show _ = _
      rw [← HRR.out]; unfold gapC
      rw [HCC.out, if_pos hc0]
    have hc1 : (cc == 0) = false := by simpa using hc0
    clear h1 h2 hf hg hb0 hat0 hW1 hk hn hcc HNEW hrr
    go_enter Tryz.func5, Tryz.ntmps5
    go_wp2_with fail
    refine (with_world HW1.out HNEW2.out).mono ?_
    rintro e w2 ⟨rfl, hb⟩
    have HB2 := Lib.hid hb
    clear hb
    go_wp2_with fail
    refine bodyPost_ret (results_tmp2 Tryz.results5 _ _) rfl ?_
    rw [HE.out]
    exact ⟨rfl, below_then HB0.out (by omega) HB2.out⟩

/-! ### Costs, without picks -/
def CostRes (w : World) (l : List (List Ct.Op)) (np : Nat) (e : Ending) (w' : World) : Prop :=
  (if checkC l np = 0 then ∃ v, e = .returned (.tuple #[v, .int .i64 0]) ∧ (∃ p cap, v = .slice p l.length cap) else e = .returned (.tuple #[.slice none 0 0, .int .i64 (checkC l np)])) ∧ Below w.heap.size w w'

set_option maxRecDepth 100000 in
set_option maxHeartbeats 1600000 in
theorem costs_none (N0 : Nat → Prop) (w : World) (mask : Nat) (vths vpk : Value) (l : List (List Ct.Op)) (pk : List Int) (h1 : ThreadsAt N0 w vths l) (h2 : PicksAt N0 w vpk pk) (hk : KindsOk l) (hn : pk.length = 0) :
    Calls Tryz.prog 6 #[.agg #[.int .u64 (mask : Nat), vths, vpk]] w (CostRes w l pk.length) := by
  obtain ⟨p, cap, rfl, hm, hf⟩ := h1.form
  obtain ⟨q, cq, rfl, hmq, hg⟩ := RowAt.form h2 (by simp)
  have hb0 := (Below.refl w.heap.size w).alloc (Nat.le_refl _) (.cells #[.int .u64 (mask : Nat), .slice p l.length cap, .slice q pk.length cq] 26)
  have hat0 := heap_alloc_at w (.cells #[.int .u64 (mask : Nat), .slice p l.length cap, .slice q pk.length cq] 26)
  have HNEW := Lib.hid (schedNew_any N0 (w.alloc (.cells #[.int .u64 (mask : Nat), .slice p l.length cap, .slice q pk.length cq] 26)) mask _ _ l pk (h1.below hb0) (h2.below hb0))
  have hlt1 : w.heap.size < (w.alloc (.cells #[.int .u64 (mask : Nat), .slice p l.length cap, .slice q pk.length cq] 26)).heap.size := by simp
  obtain ⟨W1, hW1⟩ : ∃ W, w.alloc (.cells #[.int .u64 (mask : Nat), .slice p l.length cap, .slice q pk.length cq] 26) = W := ⟨_, rfl⟩
  rw [hW1] at hb0 hat0 HNEW hlt1
  have HSC : Hid (∀ W, Keep (fun k => W1.heap.size ≤ k) W1 W → W.cell? ⟨w.heap.size, 1, none⟩ = some (.slice p l.length cap) ∧ W.cell? ⟨w.heap.size, 2, none⟩ = some (.slice q pk.length cq)) := fun W k => ⟨k.cell (cell_at hat0 1) (by simp; omega), k.cell (cell_at hat0 2) (by simp; omega)⟩
  have HB0 := Lib.hid hb0; have HW1 := Lib.hid hW1
  obtain ⟨cc, hcc⟩ : ∃ c, checkC l pk.length = c := ⟨_, rfl⟩
  have HCC := Lib.hid hcc
  unfold NewMRes at HNEW
  unfold CostRes
  rw [hcc]
  by_cases hc0 : cc = 0
  · subst hc0
    have HNEW2 : Hid (Calls Tryz.prog 8 #[.agg #[.int .u64 (mask : Nat), .slice p l.length cap, .slice q pk.length cq]] W1 fun e w' => ∃ m vpk, e = .returned (.tuple #[.pointer (some ⟨m.mb, 0, none⟩), .int .i64 0]) ∧ m.mask = mask ∧ MachZ W1.heap.size W1 w' m vpk (pk.map (pickOf l.length)) (newM l)) := HNEW.out.mono fun e w' h => by rw [if_pos hcc] at h; exact h
    have hn8 := (checkC_ok hcc).1
    obtain ⟨i0, hi0, hz0, hz1, hz2⟩ := info_parts info_int
    simp only [↓reduceIte]
    have HN := Lib.hid hn
    clear h1 h2 hf hg hb0 hat0 hW1 hk hn hcc HNEW
    go_enter Tryz.func6, Tryz.ntmps6
    go_wp2_with fail
    refine (with_world HW1.out HNEW2.out).mono ?_
    rintro e w2 ⟨m, vpk, rfl, hmk, hz⟩
    obtain ⟨s1, s2⟩ := HSC.out w2 hz.keep
    rw [HN.out] at s2
    have HZ := Lib.hid hz
    clear hz HNEW2
    go_wp2_with (at_make; refine wpList_make_full _ rfl _ _ 24 rfl 0 3 i0 (.int .i64 0) 1 Tryz.underlying24 hi0 hz0 hz1 .i64 .i64 _ _ l.length rfl rfl rfl rfl (by rw [hz2]; omega) (by unfold maxLen; omega) (Nat.zero_le _) ?_; intro w7 hown7 hgrow7; have s2' := cell_later ((Below.refl _ _).grown hgrow7 (Nat.le_refl _) (fun k hk => by cases hk)) s2; have HB7 := Lib.hid ((Below.refl w2.heap.size w2).grown hgrow7 (Nat.le_refl _) (fun k hk => by cases hk)); clear hown7 hgrow7)
    go_loopw [27] (fun v wr => v = .int .i64 0 ∧ wr = w7) (fun _ _ => 0)
    case atStart => exact ⟨rfl, rfl⟩
    case round =>
      obtain ⟨rfl, rfl⟩ := hrel
      go_wp2_with fail
      refine bodyPost_ret (results_tmp2 Tryz.results6 _ _) rfl ?_
      exact ⟨⟨_, rfl, _, _, rfl⟩, below_then HB0.out (by omega) (below_then HZ.out.toBelow HZ.out.le HB7.out)⟩
  · simp only [hc0, ↓reduceIte]
    have HNEW2 : Hid (Calls Tryz.prog 8 #[.agg #[.int .u64 (mask : Nat), .slice p l.length cap, .slice q pk.length cq]] W1 fun e w' => e = .returned (.tuple #[.pointer none, .int .i64 cc]) ∧ Below W1.heap.size W1 w') := HNEW.out.mono fun e w' h => by rw [if_neg (by rw [hcc]; exact hc0), hcc] at h; exact h
    have hc1 : (cc == 0) = false := by simpa using hc0
    clear h1 h2 hf hg hb0 hat0 hW1 hk hn hcc HNEW
    go_enter Tryz.func6, Tryz.ntmps6
    go_wp2_with fail
    refine (with_world HW1.out HNEW2.out).mono ?_
    rintro e w2 ⟨rfl, hb⟩
    have HB2 := Lib.hid hb
    clear hb
    go_wp2_with fail
    refine bodyPost_ret (results_tmp2 Tryz.results6 _ _) rfl ?_
    exact ⟨rfl, below_then HB0.out (by omega) HB2.out⟩
end Go.Proofs.YtifehcegnofpkaaGreatDoor

namespace Go.Proofs.YtifehcegnofpkaaGreatDoor
open Go.RowKit
set_option linter.unusedVariables false

/-! ### awake -/
def awOps : List (List Ct.Op) := [[{ kind := 9 }]]
theorem aw_run : soloRunC awOps [0] 0 100 = (9, 2, true, 0) := by kernel_rfl
theorem aw_gap : gapC awOps [0] = (1, 0) := by kernel_rfl
theorem aw_b1 : boundC 1 0 = 262144 := by kernel_rfl
theorem aw_b2 : boundC 2 3 = 16777216 := by kernel_rfl
theorem aw_kinds : KindsOk awOps := fun os ho o h => by
  simp [awOps] at ho; subst ho
  simp at h; subst h; exact .inr ⟨rfl, rfl⟩

abbrev frzCells : Array Value := #[.int .i64 9, .int .i64 0, .string ⟨#[]⟩, .int .u64 0, .int .u64 0]
theorem aw_script (w : World) (o : Obj) : ThreadsAt (fun _ => False) ((((w.alloc (.cells frzCells 53)).alloc (.cells #[.slice (some ⟨w.heap.size, 0, none⟩) 1 1] 27)).alloc (.cells #[.int .i64 0] 3)).alloc o) (.slice (some ⟨w.heap.size + 1, 0, none⟩) 1 1) awOps
    ∧ PicksAt (fun _ => False) ((((w.alloc (.cells frzCells 53)).alloc (.cells #[.slice (some ⟨w.heap.size, 0, none⟩) 1 1] 27)).alloc (.cells #[.int .i64 0] 3)).alloc o) (.slice (some ⟨w.heap.size + 1 + 1, 0, none⟩) 1 1) [0] := by
  have hNW := ((((News.nil w).alloc (.cells frzCells 53)).alloc (.cells #[.slice (some ⟨w.heap.size, 0, none⟩) 1 1] 27)).alloc (.cells #[.int .i64 0] 3)).alloc o
  have z := hNW.size
  have h0 := hNW.at_ 0 _ rfl; have h1 := hNW.at_ 1 _ rfl; have h2 := hNW.at_ 2 _ rfl
  simp only [Nat.add_zero] at h0
  generalize ((((w.alloc (.cells frzCells 53)).alloc (.cells #[.slice (some ⟨w.heap.size, 0, none⟩) 1 1] 27)).alloc (.cells #[.int .i64 0] 3)).alloc o) = W at h0 h1 h2 z ⊢
  simp at z
  refine ⟨⟨[.slice (some ⟨w.heap.size, 0, none⟩) 1 1], rfl, .inr ⟨_, 0, 1, rfl, id, by omega, Nat.le_refl _, by unfold maxLen; omega, fun j x hx => ?_⟩, fun i ov os hi ho => ?_⟩, .inr ⟨_, 0, 1, rfl, id, by omega, Nat.le_refl _, by unfold maxLen; omega, fun j x hx => ?_⟩⟩
  · match j, hx with
    | 0, hx => simp at hx; subst hx; exact cell_at h1 0
  · match i, hi, ho with
    | 0, hi, ho =>
      simp at hi; subst hi
      simp [awOps] at ho; subst ho
      refine .inr ⟨_, 0, 1, rfl, id, by omega, Nat.le_refl _, by unfold maxLen; omega, fun j x hx => ?_⟩
      rw [Nat.zero_add, cell_at h0 j]
      rw [← Array.getElem?_toList]; exact hx
  · match j, hx with
    | 0, hx => simp at hx; subst hx; exact cell_at h2 0

set_option maxRecDepth 100000 in
set_option maxHeartbeats 1600000 in
theorem awake29 (w : World) : Calls Tryz.prog 7 #[] w fun e w' => e = .returned (.bool true) ∧ Below w.heap.size w w' := by
  have HS := Lib.hid (aw_script w)
  have HNB : Hid (∀ o, Below w.heap.size w ((((w.alloc (.cells frzCells 53)).alloc (.cells #[.slice (some ⟨w.heap.size, 0, none⟩) 1 1] 27)).alloc (.cells #[.int .i64 0] 3)).alloc o)) := fun o => (((((News.nil w).alloc _).alloc _).alloc _).alloc o).below
  obtain ⟨b1, hb1⟩ : ∃ b, boundC 1 0 = b := ⟨_, rfl⟩
  obtain ⟨b2, hb2⟩ : ∃ b, boundC 2 3 = b := ⟨_, rfl⟩
  have HB1 : Hid (∀ w : World, Calls Tryz.prog 15 #[.int .i64 1, .int .i64 0] w fun e w' => e = .returned (.int .u64 b1) ∧ w = w') := fun w => by
    have := bound_any 1 0 w (by decide) (by decide)
    rw [hb1] at this; exact this
  have HB2 : Hid (∀ w : World, Calls Tryz.prog 15 #[.int .i64 2, .int .i64 3] w fun e w' => e = .returned (.int .u64 b2) ∧ w = w') := fun w => by
    have := bound_any 2 3 w (by decide) (by decide)
    rw [hb2] at this; exact this
  have q1 : (b1 == 262144) = true := by rw [← hb1, aw_b1]; rfl
  have q2 : (b2 == 16777216) = true := by rw [← hb2, aw_b2]; rfl
  clear hb1 hb2
  go_enter Tryz.func7, Tryz.ntmps7
  go_wp2_with fail
  have hs := HS.out (.cells #[.int .u64 0, .slice (some ⟨w.heap.size + 1, 0, none⟩) 1 1, .slice (some ⟨w.heap.size + 1 + 1, 0, none⟩) 1 1] 26)
  have HBA := Lib.hid (HNB.out (.cells #[.int .u64 0, .slice (some ⟨w.heap.size + 1, 0, none⟩) 1 1, .slice (some ⟨w.heap.size + 1 + 1, 0, none⟩) 1 1] 26))
  have hat := (((((News.nil w).alloc (.cells frzCells 53)).alloc (.cells #[.slice (some ⟨w.heap.size, 0, none⟩) 1 1] 27)).alloc (.cells #[.int .i64 0] 3)).alloc (.cells #[.int .u64 0, .slice (some ⟨w.heap.size + 1, 0, none⟩) 1 1, .slice (some ⟨w.heap.size + 1 + 1, 0, none⟩) 1 1] 26)).at_ 3 _ rfl
  have hR := soloRun_any (fun _ => False) _ 0 _ _ awOps [0] 0 100 hs.1 hs.2 aw_kinds (by decide) (by decide) (by decide)
  rw [aw_run] at hR
  refine Calls.mono hR ?_
  rintro e w2 ⟨rfl, hb2⟩
  have hG := gap_any (fun _ => False) w2 0 _ _ awOps [0] (hs.1.below hb2) (hs.2.below hb2) aw_kinds (by decide)
  rw [aw_gap] at hG
  have hat2 := seen_below hat hb2
  have d0 := cell_at hat2 0; have d1 := cell_at hat2 1; have d2 := cell_at hat2 2
  simp at d0 d1 d2
  have HG := Lib.hid hG; have HB2' := Lib.hid hb2
  clear hs hat hR hG hat2 hb2
  go_wp2_with fail
  refine Calls.mono HG.out ?_
  rintro e w3 ⟨rfl, hb3⟩
  have HB3 := Lib.hid hb3
  clear hb3 HG
  go_wp2_with fail
  refine Calls.mono (HB1.out _) ?_
  rintro e w' ⟨rfl, rfl⟩
  go_wp2_with fail
  refine Calls.mono (HB2.out _) ?_
  rintro e w' ⟨rfl, rfl⟩
  go_wp2_with fail
  go_ret
  exact ⟨rfl, below_then HBA.out HBA.out.size (below_then HB2'.out HB2'.out.size HB3.out)⟩
end Go.Proofs.YtifehcegnofpkaaGreatDoor

namespace Go.Proofs.YtifehcegnofpkaaGreatDoor
open Go.RowKit
set_option linter.unusedVariables false

def repOps (n k : Nat) : List (List Ct.Op) := List.replicate n (List.replicate k {})
theorem rep_kinds (n k : Nat) : KindsOk (repOps n k) := fun os ho o h => by
  have h1 := List.eq_of_mem_replicate ho
  subst h1
  have h2 := List.eq_of_mem_replicate h
  subst h2
  exact .inl rfl
theorem rep_check (n k : Nat) : checkC (repOps n k) 0 = if 8 < n ∨ (0 < n ∧ 16 < k) then 3 else 0 := by
  have hl : (repOps n k).length = n := by simp [repOps]
  have hmem : ∀ os, os ∈ repOps n k ↔ n ≠ 0 ∧ os = List.replicate k {} := fun os => List.mem_replicate
  generalize repOps n k = L at *
  unfold checkC
  rw [hl]
  by_cases h : 8 < n
  · rw [if_pos (.inl h), if_pos (.inl h)]
  · rw [if_neg (by omega)]
    by_cases h2 : 0 < n ∧ 16 < k
    · rw [if_pos (Or.inr h2), if_neg]
      intro h3
      have := List.all_eq_true.1 h3 (List.replicate k {}) ((hmem _).2 ⟨by omega, rfl⟩)
      simp at this; omega
    · rw [if_neg (show ¬ (8 < n ∨ (0 < n ∧ 16 < k)) by omega), if_pos]
      rw [List.all_eq_true]
      intro os ho
      obtain ⟨h3, rfl⟩ := (hmem _).1 ho
      simp; omega
theorem rep_late (n k : Nat) (th : Int) : lateC (repOps n k) [] th = decide (th < 0 ∨ (n : Int) ≤ th ∨ k = 0) := by
  have hs : (startM (repOps n k) []).history = [] := rfl
  by_cases h0 : th < 0
  · rw [lateC_neg h0]; simp [h0]
  · by_cases h1 : (n : Int) ≤ th
    · rw [lateC_past (by simpa [repOps] using h1)]; simp [h1]
    · obtain ⟨i, rfl⟩ := Int.eq_ofNat_of_zero_le (Int.not_lt.1 h0)
      have hi : (repOps n k)[i]? = some (List.replicate k {}) := by
        unfold repOps; rw [List.getElem?_replicate, if_pos (by omega)]
      rw [lateC_in hi, hs]
      have h2 : ¬ ((i : Int) < 0) := by omega
      simp [returnsC, h1, h2]
theorem rep_err (n k : Nat) (th most : Int) : (soloRunC (repOps n k) [] th most).2.2.2 = if 8 < n ∨ (0 < n ∧ 16 < k) then 3 else if th < 0 ∨ (n : Int) ≤ th ∨ k = 0 then 8 else 0 := by
  have h := rep_check n k
  unfold soloRunC
  rw [show ([] : List Int).length = 0 from rfl, h]
  by_cases h1 : 8 < n ∨ (0 < n ∧ 16 < k)
  · rw [if_pos h1, if_pos h1, if_pos (by decide)]
  · rw [if_neg h1, if_neg h1, if_neg (by decide), rep_late]
    by_cases h2 : th < 0 ∨ (n : Int) ≤ th ∨ k = 0
    · rw [if_pos (by simpa using h2), if_pos h2]
    · rw [if_neg (by simpa using h2), if_neg h2]
theorem rep_gap (n k : Nat) : (gapC (repOps n k) []).2 = if 8 < n ∨ (0 < n ∧ 16 < k) then 3 else 0 := by
  have h := rep_check n k
  unfold gapC
  rw [show ([] : List Int).length = 0 from rfl, h]
  by_cases h1 : 8 < n ∨ (0 < n ∧ 16 < k)
  · rw [if_pos h1, if_pos (by decide)]
  · rw [if_neg h1, if_neg (by decide)]

theorem size_alloc' (w : World) (o : Obj) : (w.alloc o).heap.size = w.heap.size + 1 := by simp
theorem made_ops (k : Nat) : (madeCells (Value.agg zeroOp).cells (k * 5)).toList = ((List.replicate k ({} : Ct.Op)).map opC).flatten := by
  apply List.ext_getElem?
  intro i
  have hr5 : ∀ r ∈ ((List.replicate k ({} : Ct.Op)).map opC), r.length = 5 := by simp [opC_len]
  obtain ⟨q, r, hr, rfl⟩ : ∃ q r, r < 5 ∧ i = 5 * q + r := ⟨i / 5, i % 5, Nat.mod_lt _ (by decide), by rw [Nat.div_add_mod]⟩
  rw [flat_get 5 _ q r hr5 hr]
  simp only [madeCells, Array.toList_map, Array.toList_range, List.getElem?_map, List.getElem?_replicate]
  by_cases hq : q < k
  · rw [List.getElem?_range (by omega), if_pos hq]
    have hm : (5 * q + r) % (Value.agg zeroOp).cells.size = r := by
      show (5 * q + r) % 5 = r
      omega
    simp only [Option.map_some, Option.bind_some, hm]
    match r, hr with
    | 0, _ => rfl
    | 1, _ => rfl
    | 2, _ => rfl
    | 3, _ => rfl
    | 4, _ => rfl
  · rw [List.getElem?_eq_none (by simp; omega), if_neg hq]; rfl
theorem info_ops : (Tryz.prog.info? 27).map (fun i => (i.zero, i.size, i.bytes)) = some (some (.slice none 0 0), 1, 24) := by kernel_rfl
theorem grown_facts2 {w W w5 : World} {o1 o2 : Obj} {row : Option Nat} {a : Addr} {v : Value} (hg : W.grownBy w5 row) (hW : W.heap = ((w.alloc o1).alloc o2).heap) (hc : w.cell? a = some v) (hf : w.frozen? a = false) (hne : row ≠ some a.block) : w5.cell? a = some v ∧ w5.frozen? a = false :=
  grown_facts (w := w.alloc o1) (o := o2) hg hW (cell_alloc hc o1) ((World.frozen?_of_block (((Below.refl w.heap.size w).alloc (Nat.le_refl _) o1).block _ (World.block_lt_of_cell? _ _ hc))).trans hf) hne

theorem repRun (W : World) (v : Value) (n k : Nat) (th mm wd : Int) (h : ThreadsAt (fun _ => False) W v (repOps n k)) (ht : -9223372036854775808 ≤ th ∧ th ≤ 9223372036854775807) (hm : -9223372036854775808 ≤ mm ∧ mm ≤ 400000) (hE : (if 8 < n ∨ (0 < n ∧ 16 < k) then (3 : Int) else if th < 0 ∨ (n : Int) ≤ th ∨ k = 0 then 8 else 0) = wd) :
    Calls Tryz.prog 4 #[.agg #[.int .u64 0, v, .slice none 0 0], .int .i64 th, .int .i64 mm] W fun e w' => ∃ (r0 r1 : Int) (r2 : Bool), e = .returned (.tuple #[.int .i64 r0, .int .i64 r1, .bool r2, .int .i64 wd]) ∧ Below W.heap.size W w' := by
  refine (soloRun_any (fun _ => False) W 0 v (.slice none 0 0) (repOps n k) [] th mm h (.inl ⟨rfl, rfl, rfl⟩) (rep_kinds n k) (by simp; omega) ht ⟨hm.1, by omega⟩).mono ?_
  rintro e w' ⟨rfl, hb⟩
  have := rep_err n k th mm
  rw [hE] at this
  exact ⟨_, _, _, by rw [this], hb⟩
theorem repGap (W : World) (v : Value) (n k : Nat) (wd : Int) (h : ThreadsAt (fun _ => False) W v (repOps n k)) (hE : (if 8 < n ∨ (0 < n ∧ 16 < k) then (3 : Int) else 0) = wd) :
    Calls Tryz.prog 5 #[.agg #[.int .u64 0, v, .slice none 0 0]] W fun e w' => ∃ (r0 : Int), e = .returned (.tuple #[.int .i64 r0, .int .i64 wd]) ∧ Below W.heap.size W w' := by
  refine (gap_any (fun _ => False) W 0 v (.slice none 0 0) (repOps n k) [] h (.inl ⟨rfl, rfl, rfl⟩) (rep_kinds n k) (by simp)).mono ?_
  rintro e w' ⟨rfl, hb⟩
  have := rep_gap n k
  rw [hE] at this
  exact ⟨_, by rw [this], hb⟩
theorem repCosts3 (W : World) (v : Value) (n k : Nat) (h : ThreadsAt (fun _ => False) W v (repOps n k)) (hE : (if 8 < n ∨ (0 < n ∧ 16 < k) then (3 : Int) else 0) = 3) :
    Calls Tryz.prog 6 #[.agg #[.int .u64 0, v, .slice none 0 0]] W fun e w' => e = .returned (.tuple #[.slice none 0 0, .int .i64 3]) ∧ Below W.heap.size W w' := by
  refine (costs_none (fun _ => False) W 0 v (.slice none 0 0) (repOps n k) [] h (.inl ⟨rfl, rfl, rfl⟩) (rep_kinds n k) rfl).mono ?_
  rintro e w' ⟨he, hb⟩
  have := rep_check n k
  rw [hE] at this
  rw [show ([] : List Int).length = 0 from rfl, this, if_neg (by decide)] at he
  exact ⟨he, hb⟩
theorem repCosts0 (W : World) (v : Value) (n k : Nat) (h : ThreadsAt (fun _ => False) W v (repOps n k)) (hE : (if 8 < n ∨ (0 < n ∧ 16 < k) then (3 : Int) else 0) = 0) :
    Calls Tryz.prog 6 #[.agg #[.int .u64 0, v, .slice none 0 0]] W fun e w' => ∃ p cap, e = .returned (.tuple #[.slice p n cap, .int .i64 0]) ∧ Below W.heap.size W w' := by
  refine (costs_none (fun _ => False) W 0 v (.slice none 0 0) (repOps n k) [] h (.inl ⟨rfl, rfl, rfl⟩) (rep_kinds n k) rfl).mono ?_
  rintro e w' ⟨he, hb⟩
  have := rep_check n k
  rw [hE] at this
  rw [show ([] : List Int).length = 0 from rfl, this, if_pos rfl] at he
  obtain ⟨v', rfl, p, cap, rfl⟩ := he
  exact ⟨p, cap, by rw [show (repOps n k).length = n by simp [repOps]], hb⟩

/-- The script while it is made: j threads of k operations of kind 0. -/
structure RepAt (w0 : World) (sb j k : Nat) (v : Value) (vs : List Value) (W : World) : Prop where
  blk : W.heap[sb]? = some (.cells #[.int .u64 0, v, .slice none 0 0] 26 (0, 0))
  row : W.ownsRow w0.heap.size 27 1 v j vs
  len : vs.length = j
  ops : ∀ (i : Nat) (u : Value), vs[i]? = some u → OpsAt (fun b => v.ownBlock = some b ∨ b = sb) W u (List.replicate k {})
  below : Below w0.heap.size w0 W
  sb_ : w0.heap.size ≤ sb
  ne : v.ownBlock ≠ some sb
theorem RepAt.script {w0 W : World} {sb j k : Nat} {v : Value} {vs : List Value} (h : RepAt w0 sb j k v vs W) : ThreadsAt (fun _ => False) W v (repOps j k) := by
  refine ⟨vs, by simp [repOps, h.len], ?_, fun i ov os hi ho => ?_⟩
  · rw [show (repOps j k).length = j by simp [repOps]]
    exact RowAt.of_owns h.row (fun _ _ => id)
  · have e : os = List.replicate k {} := List.eq_of_mem_replicate (List.mem_of_getElem? ho)
    subst e
    exact (h.ops i ov hi).keep (Keep.refl (fun _ => False) W) (fun _ h => h.elim) (fun _ h => h.elim)

theorem RepAt.more {w0 wr W w6 : World} {sb j k gb cap : Nat} {v : Value} {vs : List Value} {o2 : Obj} (h : RepAt w0 sb j k v vs wr) (hk : k ≤ 19)
    (hown : w6.ownsRow w0.heap.size 27 1 (.slice (some ⟨gb, 0, none⟩) (j + 1) cap) (j + 1) (vs ++ [.slice (some ⟨wr.heap.size, 0, none⟩) k k])) (hg : W.grownBy w6 v.ownBlock)
    (hW : W = (wr.drew.alloc (.cells (madeCells (Value.agg zeroOp).cells (k * 5)) 53)).alloc o2) (hat : v.ownBlock = some gb ∨ gb = W.heap.size) :
    RepAt w0 sb (j + 1) k (.slice (some ⟨gb, 0, none⟩) (j + 1) cap) (vs ++ [.slice (some ⟨wr.heap.size, 0, none⟩) k k]) (w6.setCell ⟨sb, 1, none⟩ (.slice (some ⟨gb, 0, none⟩) (j + 1) cap)) := by
  subst hW
  have hsb : sb < wr.heap.size := (Array.getElem?_eq_some_iff.1 h.blk).1
  have hvl : ∀ b, v.ownBlock = some b → b < wr.heap.size := fun b hb => (h.row.lt b hb).2
  have hat' : v.ownBlock = some gb ∨ gb = wr.heap.size + 2 := hat.imp id (fun e => by rw [e]; simp)
  have hgs : gb ≠ sb := fun e => by subst e; rcases hat' with h1 | h1; exact h.ne h1; omega
  have k0 : Keep (fun b => v.ownBlock = some b ∨ wr.heap.size ≤ b) wr ((wr.drew.alloc (.cells (madeCells (Value.agg zeroOp).cells (k * 5)) 53)).alloc o2) := (((Keep.refl _ wr).drew).trans (Keep.alloc (fun _ => False) _ _) (fun _ h => h.elim)).trans (Keep.alloc (fun _ => False) _ _) (fun _ h => h.elim)
  have k6 : Keep (fun b => v.ownBlock = some b ∨ wr.heap.size ≤ b) wr w6 := k0.trans (grown_keep hg) (fun b hb => .inl (.inl hb))
  have ks : Keep (fun b => b = sb) w6 (w6.setCell ⟨sb, 1, none⟩ (.slice (some ⟨gb, 0, none⟩) (j + 1) cap)) := Keep.setCell w6 ⟨sb, 1, none⟩ _ rfl
  have hN : ∀ b, (Value.slice (some ⟨gb, 0, none⟩) (j + 1) cap).ownBlock = some b ∨ b = sb → (v.ownBlock = some b ∨ b = sb) ∨ wr.heap.size ≤ b := fun b hb => by
    rcases hb with hb | hb
    · have hb : gb = b := by injection hb
      subst hb
      exact hat'.imp .inl (fun e => by omega)
    · exact .inl (.inr hb)
  refine ⟨?_, ?_, by simp [h.len], fun i u hi => ?_, ?_, h.sb_, fun e => by injection e with e; exact hgs e⟩
  · have h1 : w6.heap[sb]? = some (.cells #[.int .u64 0, v, .slice none 0 0] 26 (0, 0)) := by
      rw [k6.block sb hsb (fun hf => by rcases hf with h1 | h1; exact h.ne h1; omega)]; exact h.blk
    rw [heap_setCell_at w6 sb 1 _ _ _ _ h1]; rfl
  · exact ownsRow_keep hown ks (fun b hb e => hgs (by injection hb with hb; exact hb.trans e))
  · rcases Nat.lt_or_ge i vs.length with hl | hl
    · rw [List.getElem?_append_left hl] at hi
      exact ((h.ops i u hi).keep k6 (fun b hb => hb.imp (fun h => .inl h) id) hN).keep ks (fun b hb => .inl (.inr hb)) (fun _ h => .inl h)
    · rw [List.getElem?_append_right hl] at hi
      have hu : u = .slice (some ⟨wr.heap.size, 0, none⟩) k k := by
        have := List.mem_of_getElem? hi
        simpa using this
      subst hu
      have hb0 : w6.heap[wr.heap.size]? = some (.cells (madeCells (Value.agg zeroOp).cells (k * 5)) 53 (0, 0)) := by
        rw [hg.block wr.heap.size (by simp; omega) (fun e => by have := hvl _ e.symm; omega)]
        exact heap_alloc_of (heap_alloc_at wr.drew _) o2
      have hb1 : (w6.setCell ⟨sb, 1, none⟩ (.slice (some ⟨gb, 0, none⟩) (j + 1) cap)).heap[wr.heap.size]? = some (.cells (madeCells (Value.agg zeroOp).cells (k * 5)) 53 (0, 0)) := by
        rw [ks.block wr.heap.size (Array.getElem?_eq_some_iff.1 hb0).1 (by omega)]; exact hb0
      refine .inr ⟨wr.heap.size, 0, k, by simp, fun hf => ?_, (Array.getElem?_eq_some_iff.1 hb1).1, by simp, by unfold maxLen; omega, fun q x hq => ?_⟩
      · rcases hf with hf | hf
        · have hf : gb = wr.heap.size := by injection hf
          rcases hat' with h1 | h1
          · have := hvl _ h1; omega
          · omega
        · omega
      · rw [Nat.zero_add, cell_at hb1 q, ← Array.getElem?_toList, made_ops]; exact hq
  · exact Below.keep (Below.keep h.below (Nat.le_refl _) (k6.mono (fun b _ hb => by rcases hb with h1 | h1; exact (h.row.lt b h1).1; have := h.below.size; omega))) (Nat.le_refl _) (ks.mono (fun b _ e => e ▸ h.sb_))

set_option maxRecDepth 100000 in
set_option maxHeartbeats 1600000 in
theorem soloLimits_any (w : World) (a b th mo : Int) (ha : 0 ≤ a ∧ a < 256) (hb : 0 ≤ b ∧ b < 256) (ht : -9223372036854775808 ≤ th ∧ th ≤ 9223372036854775807) (hm : -9223372036854775808 ≤ mo ∧ mo ≤ 9223372036854775807) :
    Calls Tryz.prog 3 #[.int .u8 a, .int .u8 b, .int .i64 th, .int .i64 mo] w fun e w' => e = .returned (.bool true) ∧ Below w.heap.size w w' := by
  obtain ⟨n, hn⟩ : ∃ n : Nat, a % 12 = n := ⟨(a % 12).toNat, by omega⟩
  obtain ⟨k, hk⟩ : ∃ k : Nat, b % 20 = k := ⟨(b % 20).toNat, by omega⟩
  have hn11 : n ≤ 11 := by omega
  have hk19 : k ≤ 19 := by omega
  obtain ⟨i0, hi0, hz0, hz1, hz2⟩ := info_parts info_Op
  obtain ⟨i1, hj0, hj1, hj2, hj3⟩ := info_parts info_ops
  have hmk : ∀ W : World, (Instr.makeSlice 27 (.int .i64 (k : Int)) (.int .i64 (k : Int))).run Tryz.prog W = .ok (.slice (some ⟨W.heap.size, 0, none⟩) k k) (W.alloc (.cells (madeCells (Value.agg zeroOp).cells (k * 5)) 53)) := fun W => by
    have := run_make (P := Tryz.prog) W 27 53 i0 (.agg zeroOp) Tryz.underlying27 hi0 hz0 .i64 .i64 k k (by omega) (by omega) (by rw [hz2]; omega) (by omega)
    rw [hz1] at this
    simpa using this
  go_enter Tryz.func3, Tryz.ntmps3
  go_wp2_with fail
  try rw [hn]
  try rw [hk]
  go_loopw [12] (fun i wr => ∃ (j : Nat) (v : Value) (vs : List Value), i = .int .i64 j ∧ j ≤ n ∧ RepAt w w.heap.size j k v vs wr) (fun i _ => n - (intOf i).toNat)
  case atStart => exact ⟨0, .slice none 0 0, [], rfl, Nat.zero_le _, ⟨heap_alloc_at w _, World.ownsRow_nil _ _ _ _, rfl, fun i u h => (by simp at h), (Below.refl _ _).alloc (Nat.le_refl _) _, Nat.le_refl _, by simp [Value.ownBlock]⟩⟩
  case round =>
    obtain ⟨j, v, vs, rfl, hj, hr⟩ := hrel
    have c0 := cell_at hr.blk 0; have c1 := cell_at hr.blk 1; have c2 := cell_at hr.blk 2
    have f1 := free_at hr.blk 1
    simp at c0 c1 c2
    have HR := Lib.hid hr
    by_cases hlt : j < n
    · have hne := hr.ne
      have hrow := hr.row
      have HON := Lib.hid ((hrow.alloc (.cells (madeCells (Value.agg zeroOp).cells (k * 5)) 53)).alloc (.cells #[.slice (some ⟨wr.heap.size, 0, none⟩) k k] 27))
      have HNW : Hid (∀ j u, [Value.slice (some ⟨wr.heap.size, 0, none⟩) k k][j]? = some u → ((wr.alloc (.cells (madeCells (Value.agg zeroOp).cells (k * 5)) 53)).alloc (.cells #[.slice (some ⟨wr.heap.size, 0, none⟩) k k] 27)).cell? ((⟨wr.heap.size + 1, 0, none⟩ : Addr).add j) = some u) := by
        intro j u hu
        have h := new_row (w := wr.alloc (.cells (madeCells (Value.agg zeroOp).cells (k * 5)) 53)) (cs := [Value.slice (some ⟨wr.heap.size, 0, none⟩) k k]) (t := 27) j u hu
        rw [size_alloc'] at h
        exact h
      have c1a := cell_alloc c1
      have c1b := fun o o' => cell_alloc (cell_alloc c1 o) o'
      clear hr hrow
      go_wp2_with fail
      go_region_law (refine step_append_lies _ rfl (.tmp 35) (.tmp 38) 23 rfl w.heap.size 27 i1 (.slice none 0 0) 1 24 Tryz.underlying23 hj0 hj1 hj2 hj3 rfl (by decide) _ j vs rfl HON.out ⟨wr.heap.size + 1, 0, none⟩ 1 1 [Value.slice (some ⟨wr.heap.size, 0, none⟩) k k] rfl rfl HNW.out (by intro u hu; simp at hu; subst hu; rfl) (by decide) (by unfold maxLen; omega) (by omega) (by have := HR.out.below.size; simp; omega) _ rfl ?_; intro gb capb w6 hown6 hgrow6 hat6 hlt6; have hf6 := grown_facts2 hgrow6 rfl c1 f1 hne; obtain ⟨e6, f6⟩ := hf6)
      all_goals
        go_wp2_with fail
        go_roundw
        case measure => simp [intOf]; omega
        case rel =>
          exact ⟨j + 1, _, _, by go_num, by omega, HR.out.more hk19 hown6 hgrow6 rfl hat6⟩
    · have hj2 : j = n := by omega
      subst hj2
      have HTH := Lib.hid hr.script
      have HPK : Hid (∀ W, PicksAt (fun _ => False) W (.slice none 0 0) []) := fun W => .inl ⟨rfl, rfl, rfl⟩
      clear hr
      have hmt : -9223372036854775808 ≤ mo.tmod 50 ∧ mo.tmod 50 ≤ 400000 := by
        have h1 := Int.tmod_lt_of_pos mo (show (0 : Int) < 50 by decide)
        have h2 := Int.lt_tmod_of_pos mo (show (0 : Int) < 50 by decide)
        omega
      by_cases q1 : 8 < j
      · skip
        have HRR := Lib.hid (repRun wr v j k th (mo.tmod 50) 3 HTH.out ht hmt (by rw [if_pos (by omega)]))
        clear hmt
        go_wp2_with fail
        refine HRR.out.mono ?_
        rintro e w2 ⟨r0, r1, r2, rfl, hb2⟩
        have HGG := Lib.hid (repGap w2 v j k 3 (HTH.out.below hb2) (by rw [if_pos (by omega)]))
        have t0 := cell_below c0 hb2; have t1 := cell_below c1 hb2; have t2 := cell_below c2 hb2
        have HB2 := Lib.hid hb2
        clear hb2 HRR c0 c1 c2
        go_wp2_with fail
        refine HGG.out.mono ?_
        rintro e w3 ⟨g0, rfl, hb3⟩
        have HCC := Lib.hid (repCosts3 w3 v j k ((HTH.out.below HB2.out).below hb3) (by rw [if_pos (by omega)]))
        have u0 := cell_below t0 hb3; have u1 := cell_below t1 hb3; have u2 := cell_below t2 hb3
        have HB3 := Lib.hid hb3
        clear hb3 HGG t0 t1 t2
        go_wp2_with fail
        refine HCC.out.mono ?_
        rintro e w4 ⟨rfl, hb4⟩
        have HB4 := Lib.hid hb4
        clear hb4 HCC u0 u1 u2
        go_wp2_with fail
        refine (awake29 w4).mono ?_
        rintro e w5 ⟨rfl, hb5⟩
        have HB5 := Lib.hid hb5
        clear hb5
        go_wp2_with fail
        go_ret
        exact ⟨rfl, below_then HR.out.below HR.out.below.size (below_then HB2.out HB2.out.size (below_then HB3.out HB3.out.size (below_then HB4.out HB4.out.size HB5.out)))⟩
      · by_cases q2 : 0 < j
        · by_cases q3 : 16 < k
          · skip
            have HRR := Lib.hid (repRun wr v j k th (mo.tmod 50) 3 HTH.out ht hmt (by rw [if_pos (by omega)]))
            clear hmt
            go_wp2_with fail
            refine HRR.out.mono ?_
            rintro e w2 ⟨r0, r1, r2, rfl, hb2⟩
            have HGG := Lib.hid (repGap w2 v j k 3 (HTH.out.below hb2) (by rw [if_pos (by omega)]))
            have t0 := cell_below c0 hb2; have t1 := cell_below c1 hb2; have t2 := cell_below c2 hb2
            have HB2 := Lib.hid hb2
            clear hb2 HRR c0 c1 c2
            go_wp2_with fail
            refine HGG.out.mono ?_
            rintro e w3 ⟨g0, rfl, hb3⟩
            have HCC := Lib.hid (repCosts3 w3 v j k ((HTH.out.below HB2.out).below hb3) (by rw [if_pos (by omega)]))
            have u0 := cell_below t0 hb3; have u1 := cell_below t1 hb3; have u2 := cell_below t2 hb3
            have HB3 := Lib.hid hb3
            clear hb3 HGG t0 t1 t2
            go_wp2_with fail
            refine HCC.out.mono ?_
            rintro e w4 ⟨rfl, hb4⟩
            have HB4 := Lib.hid hb4
            clear hb4 HCC u0 u1 u2
            go_wp2_with fail
            refine (awake29 w4).mono ?_
            rintro e w5 ⟨rfl, hb5⟩
            have HB5 := Lib.hid hb5
            clear hb5
            go_wp2_with fail
            go_ret
            exact ⟨rfl, below_then HR.out.below HR.out.below.size (below_then HB2.out HB2.out.size (below_then HB3.out HB3.out.size (below_then HB4.out HB4.out.size HB5.out)))⟩
          · skip
            by_cases q5 : th < 0
            · skip
              have HRR := Lib.hid (repRun wr v j k th (mo.tmod 50) 8 HTH.out ht hmt (by rw [if_neg (by omega), if_pos (by omega)]))
              clear hmt
              go_wp2_with fail
              refine HRR.out.mono ?_
              rintro e w2 ⟨r0, r1, r2, rfl, hb2⟩
              have HGG := Lib.hid (repGap w2 v j k 0 (HTH.out.below hb2) (by rw [if_neg (by omega)]))
              have t0 := cell_below c0 hb2; have t1 := cell_below c1 hb2; have t2 := cell_below c2 hb2
              have HB2 := Lib.hid hb2
              clear hb2 HRR c0 c1 c2
              go_wp2_with fail
              refine HGG.out.mono ?_
              rintro e w3 ⟨g0, rfl, hb3⟩
              have HCC := Lib.hid (repCosts0 w3 v j k ((HTH.out.below HB2.out).below hb3) (by rw [if_neg (by omega)]))
              have u0 := cell_below t0 hb3; have u1 := cell_below t1 hb3; have u2 := cell_below t2 hb3
              have HB3 := Lib.hid hb3
              clear hb3 HGG t0 t1 t2
              go_wp2_with fail
              refine HCC.out.mono ?_
              rintro e w4 ⟨p4, cap4, rfl, hb4⟩
              have HB4 := Lib.hid hb4
              clear hb4 HCC u0 u1 u2
              go_wp2_with fail
              refine (awake29 w4).mono ?_
              rintro e w5 ⟨rfl, hb5⟩
              have HB5 := Lib.hid hb5
              clear hb5
              go_wp2_with fail
              go_ret
              exact ⟨rfl, below_then HR.out.below HR.out.below.size (below_then HB2.out HB2.out.size (below_then HB3.out HB3.out.size (below_then HB4.out HB4.out.size HB5.out)))⟩
            · by_cases q6 : (j : Int) ≤ th
              · have q7 : ¬ th < (j : Int) := by omega
                have HRR := Lib.hid (repRun wr v j k th (mo.tmod 50) 8 HTH.out ht hmt (by rw [if_neg (by omega), if_pos (by omega)]))
                clear hmt
                go_wp2_with fail
                refine HRR.out.mono ?_
                rintro e w2 ⟨r0, r1, r2, rfl, hb2⟩
                have HGG := Lib.hid (repGap w2 v j k 0 (HTH.out.below hb2) (by rw [if_neg (by omega)]))
                have t0 := cell_below c0 hb2; have t1 := cell_below c1 hb2; have t2 := cell_below c2 hb2
                have HB2 := Lib.hid hb2
                clear hb2 HRR c0 c1 c2
                go_wp2_with fail
                refine HGG.out.mono ?_
                rintro e w3 ⟨g0, rfl, hb3⟩
                have HCC := Lib.hid (repCosts0 w3 v j k ((HTH.out.below HB2.out).below hb3) (by rw [if_neg (by omega)]))
                have u0 := cell_below t0 hb3; have u1 := cell_below t1 hb3; have u2 := cell_below t2 hb3
                have HB3 := Lib.hid hb3
                clear hb3 HGG t0 t1 t2
                go_wp2_with fail
                refine HCC.out.mono ?_
                rintro e w4 ⟨p4, cap4, rfl, hb4⟩
                have HB4 := Lib.hid hb4
                clear hb4 HCC u0 u1 u2
                go_wp2_with fail
                refine (awake29 w4).mono ?_
                rintro e w5 ⟨rfl, hb5⟩
                have HB5 := Lib.hid hb5
                clear hb5
                go_wp2_with fail
                go_ret
                exact ⟨rfl, below_then HR.out.below HR.out.below.size (below_then HB2.out HB2.out.size (below_then HB3.out HB3.out.size (below_then HB4.out HB4.out.size HB5.out)))⟩
              · by_cases q7 : k = 0
                · have q8 : ((k : Int) == 0) = true := by simp [q7]
                  have HRR := Lib.hid (repRun wr v j k th (mo.tmod 50) 8 HTH.out ht hmt (by rw [if_neg (by omega), if_pos (by omega)]))
                  clear hmt
                  go_wp2_with fail
                  refine HRR.out.mono ?_
                  rintro e w2 ⟨r0, r1, r2, rfl, hb2⟩
                  have HGG := Lib.hid (repGap w2 v j k 0 (HTH.out.below hb2) (by rw [if_neg (by omega)]))
                  have t0 := cell_below c0 hb2; have t1 := cell_below c1 hb2; have t2 := cell_below c2 hb2
                  have HB2 := Lib.hid hb2
                  clear hb2 HRR c0 c1 c2
                  go_wp2_with fail
                  refine HGG.out.mono ?_
                  rintro e w3 ⟨g0, rfl, hb3⟩
                  have HCC := Lib.hid (repCosts0 w3 v j k ((HTH.out.below HB2.out).below hb3) (by rw [if_neg (by omega)]))
                  have u0 := cell_below t0 hb3; have u1 := cell_below t1 hb3; have u2 := cell_below t2 hb3
                  have HB3 := Lib.hid hb3
                  clear hb3 HGG t0 t1 t2
                  go_wp2_with fail
                  refine HCC.out.mono ?_
                  rintro e w4 ⟨p4, cap4, rfl, hb4⟩
                  have HB4 := Lib.hid hb4
                  clear hb4 HCC u0 u1 u2
                  go_wp2_with fail
                  refine (awake29 w4).mono ?_
                  rintro e w5 ⟨rfl, hb5⟩
                  have HB5 := Lib.hid hb5
                  clear hb5
                  go_wp2_with fail
                  go_ret
                  exact ⟨rfl, below_then HR.out.below HR.out.below.size (below_then HB2.out HB2.out.size (below_then HB3.out HB3.out.size (below_then HB4.out HB4.out.size HB5.out)))⟩
                · have q8 : ((k : Int) == 0) = false := by simp; omega
                  have HRR := Lib.hid (repRun wr v j k th (mo.tmod 50) 0 HTH.out ht hmt (by rw [if_neg (by omega), if_neg (by omega)]))
                  clear hmt
                  go_wp2_with fail
                  refine HRR.out.mono ?_
                  rintro e w2 ⟨r0, r1, r2, rfl, hb2⟩
                  have HGG := Lib.hid (repGap w2 v j k 0 (HTH.out.below hb2) (by rw [if_neg (by omega)]))
                  have t0 := cell_below c0 hb2; have t1 := cell_below c1 hb2; have t2 := cell_below c2 hb2
                  have HB2 := Lib.hid hb2
                  clear hb2 HRR c0 c1 c2
                  go_wp2_with fail
                  refine HGG.out.mono ?_
                  rintro e w3 ⟨g0, rfl, hb3⟩
                  have HCC := Lib.hid (repCosts0 w3 v j k ((HTH.out.below HB2.out).below hb3) (by rw [if_neg (by omega)]))
                  have u0 := cell_below t0 hb3; have u1 := cell_below t1 hb3; have u2 := cell_below t2 hb3
                  have HB3 := Lib.hid hb3
                  clear hb3 HGG t0 t1 t2
                  go_wp2_with fail
                  refine HCC.out.mono ?_
                  rintro e w4 ⟨p4, cap4, rfl, hb4⟩
                  have HB4 := Lib.hid hb4
                  clear hb4 HCC u0 u1 u2
                  go_wp2_with fail
                  refine (awake29 w4).mono ?_
                  rintro e w5 ⟨rfl, hb5⟩
                  have HB5 := Lib.hid hb5
                  clear hb5
                  go_wp2_with fail
                  go_ret
                  exact ⟨by show Ending.returned (.bool (!decide (th < 0) && !decide ((j : Int) ≤ th))) = _; simp; omega, below_then HR.out.below HR.out.below.size (below_then HB2.out HB2.out.size (below_then HB3.out HB3.out.size (below_then HB4.out HB4.out.size HB5.out)))⟩
        · have q9 : j = 0 := by omega
          by_cases q5 : th < 0
          · skip
            have HRR := Lib.hid (repRun wr v j k th (mo.tmod 50) 8 HTH.out ht hmt (by rw [if_neg (by omega), if_pos (by omega)]))
            clear hmt
            go_wp2_with fail
            refine HRR.out.mono ?_
            rintro e w2 ⟨r0, r1, r2, rfl, hb2⟩
            have HGG := Lib.hid (repGap w2 v j k 0 (HTH.out.below hb2) (by rw [if_neg (by omega)]))
            have t0 := cell_below c0 hb2; have t1 := cell_below c1 hb2; have t2 := cell_below c2 hb2
            have HB2 := Lib.hid hb2
            clear hb2 HRR c0 c1 c2
            go_wp2_with fail
            refine HGG.out.mono ?_
            rintro e w3 ⟨g0, rfl, hb3⟩
            have HCC := Lib.hid (repCosts0 w3 v j k ((HTH.out.below HB2.out).below hb3) (by rw [if_neg (by omega)]))
            have u0 := cell_below t0 hb3; have u1 := cell_below t1 hb3; have u2 := cell_below t2 hb3
            have HB3 := Lib.hid hb3
            clear hb3 HGG t0 t1 t2
            go_wp2_with fail
            refine HCC.out.mono ?_
            rintro e w4 ⟨p4, cap4, rfl, hb4⟩
            have HB4 := Lib.hid hb4
            clear hb4 HCC u0 u1 u2
            go_wp2_with fail
            refine (awake29 w4).mono ?_
            rintro e w5 ⟨rfl, hb5⟩
            have HB5 := Lib.hid hb5
            clear hb5
            go_wp2_with fail
            go_ret
            exact ⟨rfl, below_then HR.out.below HR.out.below.size (below_then HB2.out HB2.out.size (below_then HB3.out HB3.out.size (below_then HB4.out HB4.out.size HB5.out)))⟩
          · by_cases q6 : (j : Int) ≤ th
            · have q7 : ¬ th < (j : Int) := by omega
              have HRR := Lib.hid (repRun wr v j k th (mo.tmod 50) 8 HTH.out ht hmt (by rw [if_neg (by omega), if_pos (by omega)]))
              clear hmt
              go_wp2_with fail
              refine HRR.out.mono ?_
              rintro e w2 ⟨r0, r1, r2, rfl, hb2⟩
              have HGG := Lib.hid (repGap w2 v j k 0 (HTH.out.below hb2) (by rw [if_neg (by omega)]))
              have t0 := cell_below c0 hb2; have t1 := cell_below c1 hb2; have t2 := cell_below c2 hb2
              have HB2 := Lib.hid hb2
              clear hb2 HRR c0 c1 c2
              go_wp2_with fail
              refine HGG.out.mono ?_
              rintro e w3 ⟨g0, rfl, hb3⟩
              have HCC := Lib.hid (repCosts0 w3 v j k ((HTH.out.below HB2.out).below hb3) (by rw [if_neg (by omega)]))
              have u0 := cell_below t0 hb3; have u1 := cell_below t1 hb3; have u2 := cell_below t2 hb3
              have HB3 := Lib.hid hb3
              clear hb3 HGG t0 t1 t2
              go_wp2_with fail
              refine HCC.out.mono ?_
              rintro e w4 ⟨p4, cap4, rfl, hb4⟩
              have HB4 := Lib.hid hb4
              clear hb4 HCC u0 u1 u2
              go_wp2_with fail
              refine (awake29 w4).mono ?_
              rintro e w5 ⟨rfl, hb5⟩
              have HB5 := Lib.hid hb5
              clear hb5
              go_wp2_with fail
              go_ret
              exact ⟨rfl, below_then HR.out.below HR.out.below.size (below_then HB2.out HB2.out.size (below_then HB3.out HB3.out.size (below_then HB4.out HB4.out.size HB5.out)))⟩
            · omega
end Go.Proofs.YtifehcegnofpkaaGreatDoor
