/- Parts of a proof: Lk. -/
import Derived.Test.YtjlgchdekhmnnaaGreatDoorM26
section
namespace Go.Proofs.YtjlgchdekhmnnaaGreatDoor
open Go.RowKit
set_option linter.unusedVariables false
set_option linter.unusedSimpArgs false
variable {O : Nat → Prop}
theorem lookup_new (g : Ghost) (w : World) (s : Ct.St) (t : Ct.Trie) (l : Ct.Look) (ok : l.ok) (h : ArenaAt g w s) (hfin : Fin 1000 s) (W : World) (b p f : Nat) (hB : Below w.heap.size w W) (hb : w.heap.size ≤ b ∧ w.heap.size ≤ p ∧ w.heap.size ≤ f)
    (h1 : W.heap[b]? = some (.cells #[.string l.key] 9)) (h2 : W.heap[p]? = some (.cells #[ptr f] 188)) (h3 : W.heap[f]? = some (.cells (lookCells g.sv t l).toArray 190)) :
    Calls Tryz.prog 76 #[g.sv, .func (.func 108) #[] #[ptr b, ptr p]] W (fun e w' => MadeTask g w (Ct.apply Ct.stOps (.fnd0 t l) 0 s) e w' ∧ ∃ tb, e = .returned (.pointer (some ⟨tb, 0, none⟩))) := by
  have hk : KRep g.sv g.N (fun _ => False) W (.func (.func 108) #[] #[ptr b, ptr p]) (.fnd0 t l) :=
    ⟨_, _, rfl, blk_new h hb.1 h1, _, blk_new h hb.2.1 h2, blk_new h hb.2.2 h3⟩
  have hc := taskNew_any (.fnd0 t l) g W s _ _ _ ⟨(h.below hB), fun _ h => h.elim⟩ hfin hk (clo_fnd0 t l ok)
  refine hc.mono fun e w1 hr => ⟨MadeTask.of (Step.below hB) (Nat.le_refl _) (fun _ h => h.elim) hr, _, hr.1⟩
theorem below_two (W0 : World) (B : Nat) (hz : W0.heap.size = B) (o o' : Obj) : Below B W0.drew ((W0.alloc o).alloc o').drew := by
  have h := ((Below.refl B W0).alloc (by omega) o).alloc (by simp; omega) o'
  exact ⟨h.os, h.tape, h.output, h.size, h.block⟩
set_option maxRecDepth 100000 in
set_option maxHeartbeats 800000 in
theorem lookup_any (g : Ghost) (w : World) (s : Ct.St) (t : Ct.Trie) (mask : Nat) (key : ByteArray) (hk : key.size ≤ 9223372036854775807) (hm : mask < 18446744073709551616) (h : ArenaAt g w s) (hfin : Fin 1000 s) :
    Calls Tryz.prog 84 #[g.sv, .agg #[.int .i64 t.root, .bool t.readOnly], .int .u64 (mask : Nat), .string key] w (MadeTask g w (Ct.apply Ct.stOps (.fnd0 t { key := key, hash := Ct.hashOf key mask }) 0 s)) := by
  have HH : Hid (∀ W, Calls Tryz.prog 103 #[.string key, .int .u64 (mask : Nat)] W fun e w' => e = .returned (.int .u64 (Ct.hashOf key mask : Nat)) ∧ W = w') := fun W => hash_any key mask W hk hm
  have HN := Lib.hid (lookup_new g w s t { key := key, hash := Ct.hashOf key mask } ⟨hashOf_lt _ _, hk⟩ h hfin)
  have hz : ((w.alloc (.cells #[.int .i64 t.root, .bool t.readOnly] 43)).alloc (.cells #[.string key] 9)).heap.size = w.heap.size + 2 := by simp
  have hz1 := heap_alloc_of (heap_alloc_at w (.cells #[.int .i64 t.root, .bool t.readOnly] 43)) (.cells #[.string key] 9)
  have hz2 := heap_alloc_at' (w.alloc (.cells #[.int .i64 t.root, .bool t.readOnly] 43)) (.cells #[.string key] 9) (w.heap.size + 1) (by simp)
  obtain ⟨W0, hW0⟩ : ∃ W, ((w.alloc (.cells #[.int .i64 t.root, .bool t.readOnly] 43)).alloc (.cells #[.string key] 9)) = W := ⟨_, rfl⟩
  have hB0 : Below w.heap.size w W0 := hW0 ▸ (((Below.refl _ _).alloc (Nat.le_refl _) _).alloc (by simp) _)
  rw [hW0] at hz hz1 hz2
  have HS0 : Hid (∀ W', Below (w.heap.size + 2) W0.drew W' → W'.cell? ⟨w.heap.size, 0, none⟩ = some (.int .i64 t.root) ∧ W'.cell? ⟨w.heap.size, 1, none⟩ = some (.bool t.readOnly) ∧ W'.cell? ⟨w.heap.size + 1, 0, none⟩ = some (.string key)) := fun W' hb => by
    have e1 := (hb.block w.heap.size (by omega)).trans hz1
    have e2 := (hb.block (w.heap.size + 1) (by omega)).trans hz2
    exact ⟨cell_at e1 0, cell_at e1 1, cell_at e2 0⟩
  have HW := Lib.hid hW0; have HZ1 := Lib.hid hz1; have HZ2 := Lib.hid hz2; have HB0 := Lib.hid hB0
  clear hk hm h hfin hW0 hz1 hz2 hB0
  unfold lookCells Ghost.sv ptr at HN
  unfold Ghost.sv
  have hmf := hmfG
  generalize Ct.hashOf key mask = hv at HH HN
  go_enter Tryz.func84, Tryz.ntmps84
  go_wp2_with fail
  refine code_world HW.out ?_
  refine wp_region_held_drew (S := fun W' => Below (w.heap.size + 2) W0.drew W') (by kernel_rfl) (Below.refl _ _) (fun hS => ?_)
  refine wpAnyH_take (i := 0) (oi := { dst := (some 10), op := (Op.move (Operand.tmp 0)), type := 95, pos := "find.go:24", after := #[], guard := none }) (v := .iface 23 (.pointer (some ⟨g.a, 0, none⟩))) rfl (by kernel_rfl) (by kernel_rfl) (by kernel_rfl) (fun _ _ _ h => h) (Or.inl ⟨by rfl, fun W' hW => ?_⟩) hS ?_
  · go_simp
  (try simp only [Act.put, sI, sZ, sS])
  refine wpAnyH_take (i := 1) (oi := { dst := (some 11), op := (Op.load 43 (Operand.tmp 5)), type := 43, pos := "find.go:24", after := #[], guard := none }) (v := .agg #[.int .i64 t.root, .bool t.readOnly]) rfl (by kernel_rfl) (by kernel_rfl) (by kernel_rfl) (fun _ _ _ h => h) (Or.inl ⟨by rfl, fun W' hW => ?_⟩) hS ?_
  · (obtain ⟨l0, l1, l2⟩ := HS0.out W' hW; go_simp)
  (try simp only [Act.put, sI, sZ, sS])
  refine wpAnyH_take (i := 2) (oi := { dst := (some 12), op := (Op.build 181 #[(0, (Operand.tmp 10)), (1, (Operand.tmp 11))]), type := 181, pos := "find.go:24", after := #[⟨0, .data⟩, ⟨1, .data⟩], guard := none }) (v := .agg #[.iface 23 (.pointer (some ⟨g.a, 0, none⟩)), .int .i64 t.root, .bool t.readOnly]) rfl (by kernel_rfl) (by kernel_rfl) (by kernel_rfl) (fun _ _ _ h => h) (Or.inl ⟨by rfl, fun W' hW => ?_⟩) hS ?_
  · go_simp
  (try simp only [Act.put, sI, sZ, sS])
  refine wpAnyH_take (i := 3) (oi := { dst := (some 13), op := (Op.load 9 (Operand.tmp 7)), type := 9, pos := "find.go:24", after := #[], guard := none }) (v := .string key) rfl (by kernel_rfl) (by kernel_rfl) (by kernel_rfl) (fun _ _ _ h => h) (Or.inl ⟨by rfl, fun W' hW => ?_⟩) hS ?_
  · (obtain ⟨l0, l1, l2⟩ := HS0.out W' hW; go_simp)
  (try simp only [Act.put, sI, sZ, sS])
  refine wpAnyH_take (i := 4) (oi := { dst := (some 14), op := (Op.load 9 (Operand.tmp 7)), type := 9, pos := "find.go:24", after := #[], guard := none }) (v := .string key) rfl (by kernel_rfl) (by kernel_rfl) (by kernel_rfl) (fun _ _ _ h => h) (Or.inl ⟨by rfl, fun W' hW => ?_⟩) hS ?_
  · (obtain ⟨l0, l1, l2⟩ := HS0.out W' hW; go_simp)
  (try simp only [Act.put, sI, sZ, sS])
  refine wpAnyH_take (i := 5) (oi := { dst := (some 15), op := (Op.move (Operand.tmp 2)), type := 27, pos := "find.go:24", after := #[], guard := none }) (v := .int .u64 (mask : Nat)) rfl (by kernel_rfl) (by kernel_rfl) (by kernel_rfl) (fun _ _ _ h => h) (Or.inl ⟨by rfl, fun W' hW => ?_⟩) hS ?_
  · go_simp
  (try simp only [Act.put, sI, sZ, sS])
  refine wpAnyH_ready (rs := [6, 9]) (by kernel_rfl) (by simp) ?_
  refine AllReadyH.cons (o := { dst := (some 16), op := (Op.call { callee := (Callee.value (Operand.func 103)), args := #[(Operand.tmp 14), (Operand.tmp 15)], argTypes := #[9, 27] }), type := 27, pos := "find.go:24", after := #[⟨4, .data⟩, ⟨5, .data⟩], guard := none }) rfl (fun K hK => ?_) (AllReadyH.cons (o := { dst := (some 9), op := (Op.alloc 188), type := 0, pos := "find.go:24", after := #[], guard := none }) rfl (fun K hK => ?_) AllReadyH.nil)
  · go_simp
    refine (HH.out _).mono ?_
    rintro e w' ⟨rfl, rfl⟩
    refine hK.out _ _ hS (fun hS => ?_)
    clear hK K
    (try simp only [Act.put, sI, sZ, sS])
    refine wpAnyH_take (i := 7) (oi := { dst := (some 17), op := (Op.build 190 #[(0, (Operand.tmp 12)), (1, (Operand.tmp 13)), (2, (Operand.tmp 16))]), type := 190, pos := "find.go:24", after := #[⟨2, .data⟩, ⟨3, .data⟩, ⟨6, .data⟩], guard := none }) (v := .agg #[.iface 23 (.pointer (some ⟨g.a, 0, none⟩)), .int .i64 t.root, .bool t.readOnly, .string key, .int .u64 (hv : Nat)]) rfl (by kernel_rfl) (by kernel_rfl) (by kernel_rfl) (fun _ _ _ h => h) (Or.inl ⟨by rfl, fun W' hW => ?_⟩) hS ?_
    · go_simp
    (try simp only [Act.put, sI, sZ, sS])
    refine wpAnyH_ready (rs := [8, 9]) (by kernel_rfl) (by simp) ?_
    refine AllReadyH.cons (o := { dst := (some 18), op := (Op.box 190 (Operand.tmp 17)), type := 188, pos := "find.go:24", after := #[⟨7, .data⟩], guard := none }) rfl (fun K hK => ?_) (AllReadyH.cons (o := { dst := (some 9), op := (Op.alloc 188), type := 0, pos := "find.go:24", after := #[], guard := none }) rfl (fun K hK => ?_) AllReadyH.nil)
    · go_simp
      refine hK.out _ _ (hS.alloc (by simp [hz]) _) (fun hS => ?_)
      clear hK K
      (try simp only [Act.put, sI, sZ, sS])
      refine wpAnyH_ready (rs := [9]) (by kernel_rfl) (by simp) ?_
      refine AllReadyH.cons (o := { dst := (some 9), op := (Op.alloc 188), type := 0, pos := "find.go:24", after := #[], guard := none }) rfl (fun K hK => ?_) AllReadyH.nil
      go_simp
      refine hK.out _ _ (hS.alloc (by simp [hz]) _) (fun hS => ?_)
      clear hK K
      (try simp only [Act.put, sI, sZ, sS])
      refine wpAnyH_ready (rs := [10]) (by kernel_rfl) (by simp) ?_
      refine AllReadyH.cons (o := { dst := none, op := (Op.store 188 (Operand.tmp 9) (Operand.tmp 18)), type := 0, pos := "find.go:24", after := #[⟨9, .data⟩, ⟨8, .data⟩, ⟨6, .chain⟩, ⟨0, .phase⟩, ⟨1, .phase⟩, ⟨2, .phase⟩, ⟨3, .phase⟩, ⟨4, .phase⟩, ⟨5, .phase⟩, ⟨6, .phase⟩, ⟨7, .phase⟩, ⟨8, .phase⟩, ⟨9, .phase⟩], guard := none }) rfl (fun K hK => ?_) AllReadyH.nil
      go_simp
      refine hK.out _ _ (below_two W0 _ hz _ _) (fun hS => ?_)
      clear hK K
      (try simp only [Act.put, sI, sZ, sS])
      refine wpAnyH_done (by kernel_rfl) ?_ _
      go_wp2_with fail
      refine (HN.out _ (w.heap.size + 1) (w.heap.size + 2 + 1) (w.heap.size + 2) ((HB0.out.alloc (by omega) _).alloc (by simp; omega) _).drew ⟨by omega, by omega, by omega⟩ (heap_alloc_of (heap_alloc_of HZ2.out _) _) (heap_alloc_at' (W0.alloc _) _ (w.heap.size + 2 + 1) (by simp [hz])) (heap_alloc_of (heap_alloc_at' W0 _ (w.heap.size + 2) hz.symm) _)).mono ?_
      rintro e w5 ⟨hr, tb, rfl⟩
      have HR := Lib.hid hr
      clear hr
      go_wp2_with fail
      go_ret
      exact HR.out
    · go_simp
      refine hK.out _ _ (hS.alloc (by simp [hz]) _) (fun hS => ?_)
      clear hK K
      (try simp only [Act.put, sI, sZ, sS])
      refine wpAnyH_ready (rs := [8]) (by kernel_rfl) (by simp) ?_
      refine AllReadyH.cons (o := { dst := (some 18), op := (Op.box 190 (Operand.tmp 17)), type := 188, pos := "find.go:24", after := #[⟨7, .data⟩], guard := none }) rfl (fun K hK => ?_) AllReadyH.nil
      go_simp
      refine hK.out _ _ (hS.alloc (by simp [hz]) _) (fun hS => ?_)
      clear hK K
      (try simp only [Act.put, sI, sZ, sS])
      refine wpAnyH_ready (rs := [10]) (by kernel_rfl) (by simp) ?_
      refine AllReadyH.cons (o := { dst := none, op := (Op.store 188 (Operand.tmp 9) (Operand.tmp 18)), type := 0, pos := "find.go:24", after := #[⟨9, .data⟩, ⟨8, .data⟩, ⟨6, .chain⟩, ⟨0, .phase⟩, ⟨1, .phase⟩, ⟨2, .phase⟩, ⟨3, .phase⟩, ⟨4, .phase⟩, ⟨5, .phase⟩, ⟨6, .phase⟩, ⟨7, .phase⟩, ⟨8, .phase⟩, ⟨9, .phase⟩], guard := none }) rfl (fun K hK => ?_) AllReadyH.nil
      go_simp
      refine hK.out _ _ (below_two W0 _ hz _ _) (fun hS => ?_)
      clear hK K
      (try simp only [Act.put, sI, sZ, sS])
      refine wpAnyH_done (by kernel_rfl) ?_ _
      go_wp2_with fail
      refine (HN.out _ (w.heap.size + 1) (w.heap.size + 2) (w.heap.size + 2 + 1) ((HB0.out.alloc (by omega) _).alloc (by simp; omega) _).drew ⟨by omega, by omega, by omega⟩ (heap_alloc_of (heap_alloc_of HZ2.out _) _) (heap_alloc_of (heap_alloc_at' W0 _ (w.heap.size + 2) hz.symm) _) (heap_alloc_at' (W0.alloc _) _ (w.heap.size + 2 + 1) (by simp [hz]))).mono ?_
      rintro e w5 ⟨hr, tb, rfl⟩
      have HR := Lib.hid hr
      clear hr
      go_wp2_with fail
      go_ret
      exact HR.out
  · go_simp
    refine hK.out _ _ (hS.alloc (by simp [hz]) _) (fun hS => ?_)
    clear hK K
    (try simp only [Act.put, sI, sZ, sS])
    refine wpAnyH_ready (rs := [6]) (by kernel_rfl) (by simp) ?_
    refine AllReadyH.cons (o := { dst := (some 16), op := (Op.call { callee := (Callee.value (Operand.func 103)), args := #[(Operand.tmp 14), (Operand.tmp 15)], argTypes := #[9, 27] }), type := 27, pos := "find.go:24", after := #[⟨4, .data⟩, ⟨5, .data⟩], guard := none }) rfl (fun K hK => ?_) AllReadyH.nil
    go_simp
    refine (HH.out _).mono ?_
    rintro e w' ⟨rfl, rfl⟩
    refine hK.out _ _ hS (fun hS => ?_)
    clear hK K
    (try simp only [Act.put, sI, sZ, sS])
    refine wpAnyH_take (i := 7) (oi := { dst := (some 17), op := (Op.build 190 #[(0, (Operand.tmp 12)), (1, (Operand.tmp 13)), (2, (Operand.tmp 16))]), type := 190, pos := "find.go:24", after := #[⟨2, .data⟩, ⟨3, .data⟩, ⟨6, .data⟩], guard := none }) (v := .agg #[.iface 23 (.pointer (some ⟨g.a, 0, none⟩)), .int .i64 t.root, .bool t.readOnly, .string key, .int .u64 (hv : Nat)]) rfl (by kernel_rfl) (by kernel_rfl) (by kernel_rfl) (fun _ _ _ h => h) (Or.inl ⟨by rfl, fun W' hW => ?_⟩) hS ?_
    · go_simp
    (try simp only [Act.put, sI, sZ, sS])
    refine wpAnyH_ready (rs := [8]) (by kernel_rfl) (by simp) ?_
    refine AllReadyH.cons (o := { dst := (some 18), op := (Op.box 190 (Operand.tmp 17)), type := 188, pos := "find.go:24", after := #[⟨7, .data⟩], guard := none }) rfl (fun K hK => ?_) AllReadyH.nil
    go_simp
    refine hK.out _ _ (hS.alloc (by simp [hz]) _) (fun hS => ?_)
    clear hK K
    (try simp only [Act.put, sI, sZ, sS])
    refine wpAnyH_ready (rs := [10]) (by kernel_rfl) (by simp) ?_
    refine AllReadyH.cons (o := { dst := none, op := (Op.store 188 (Operand.tmp 9) (Operand.tmp 18)), type := 0, pos := "find.go:24", after := #[⟨9, .data⟩, ⟨8, .data⟩, ⟨6, .chain⟩, ⟨0, .phase⟩, ⟨1, .phase⟩, ⟨2, .phase⟩, ⟨3, .phase⟩, ⟨4, .phase⟩, ⟨5, .phase⟩, ⟨6, .phase⟩, ⟨7, .phase⟩, ⟨8, .phase⟩, ⟨9, .phase⟩], guard := none }) rfl (fun K hK => ?_) AllReadyH.nil
    go_simp
    refine hK.out _ _ (below_two W0 _ hz _ _) (fun hS => ?_)
    clear hK K
    (try simp only [Act.put, sI, sZ, sS])
    refine wpAnyH_done (by kernel_rfl) ?_ _
    go_wp2_with fail
    refine (HN.out _ (w.heap.size + 1) (w.heap.size + 2) (w.heap.size + 2 + 1) ((HB0.out.alloc (by omega) _).alloc (by simp; omega) _).drew ⟨by omega, by omega, by omega⟩ (heap_alloc_of (heap_alloc_of HZ2.out _) _) (heap_alloc_of (heap_alloc_at' W0 _ (w.heap.size + 2) hz.symm) _) (heap_alloc_at' (W0.alloc _) _ (w.heap.size + 2 + 1) (by simp [hz]))).mono ?_
    rintro e w5 ⟨hr, tb, rfl⟩
    have HR := Lib.hid hr
    clear hr
    go_wp2_with fail
    go_ret
    exact HR.out
end Go.Proofs.YtjlgchdekhmnnaaGreatDoor
end
