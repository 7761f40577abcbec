/- Parts of a proof: Ps, Pt, Pg. -/
import Derived.Test.YtjlgchdekhmnnaaGreatDoorM17
import Derived.Test.YtjlgchdekhmnnaaGreatDoorM02
import Derived.RegionTactic
import Derived.Deep.RegionHeld3
import Derived.Deep.MidRow
import Derived.ChangeAlike
import Derived.Test.YtjlgchdekhmnnaaGreatDoorM03
import Derived.Test.YtjlgchdekhmnnaaGreatDoorM00
import Derived.Lib.Bytealg
section
namespace Go.Proofs.YtjlgchdekhmnnaaGreatDoor
open Go.RowKit
set_option linter.unusedVariables false
set_option linter.unusedSimpArgs false
theorem below_drewQ' {B : Nat} {w W : World} (h : Below B w W) : Below B w W.drew := ⟨h.os, h.tape, h.output, h.size, h.block⟩
theorem below_three (w : World) (a b c : Obj) : Below w.heap.size w ((((w.alloc a).alloc b).alloc c).drew) :=
  below_drewQ' ((((Below.refl _ _).alloc (Nat.le_refl _) _).alloc (by simp) _).alloc (by simp; omega) _)
set_option maxRecDepth 100000 in
set_option maxHeartbeats 800000 in
theorem own_C (n : Ct.Node) (bv pv : Value) (w : World) (hk : n.kind = 3) (hb : ∃ p l c, bv = .slice p l c) :
    Calls Tryz.prog 242 #[.agg (nodeCells n bv pv).toArray] w fun e w' => e = .returned (.agg (nodeCells { kind := 3, bitmap := n.bitmap, branches := n.branches, prev := n.prev } bv (.slice none 0 0)).toArray) ∧ Below w.heap.size w w' := by
  obtain ⟨kind, gen, main, bitmap, branches, hash, key, value, pairs, prev, old, expected, new, status⟩ := n
  simp only at hk
  subst hk
  obtain ⟨p, l, c, rfl⟩ := hb
  unfold nodeCells
  go_enter Tryz.func242, Tryz.ntmps242
  go_wp2_with fail
  go_region
  all_goals go_wp2_with fail
  all_goals exact bodyPost_ret (v := .agg #[.int .i64 3, .int .i64 0, .int .i64 0, .int .u64 (bitmap : Nat), .slice p l c, .int .u64 0, .string ⟨#[]⟩, .int .u64 0, .slice none 0 0, .int .i64 prev, .int .i64 0, .int .i64 0, .int .i64 0, .int .i64 0]) (by simp [results, Tryz.results242, go_sem]) rfl ⟨rfl, below_three w _ _ _⟩
theorem RefsAt.slice {N : Nat → Prop} {w : World} {v : Value} {xs : List Int} (h : RefsAt N w v xs) : ∃ p c, v = .slice p xs.length c := by
  rcases h with ⟨rfl, rfl⟩ | ⟨b, off, cap, rfl, _⟩
  · exact ⟨none, 0, rfl⟩
  · exact ⟨_, cap, rfl⟩
theorem PairsAt.slice {N : Nat → Prop} {w : World} {v : Value} {xs : List Ct.Pair} (h : PairsAt N w v xs) : ∃ p c, v = .slice p xs.length c := by
  rcases h with ⟨rfl, rfl⟩ | ⟨b, off, cap, rfl, _⟩
  · exact ⟨none, 0, rfl⟩
  · exact ⟨_, cap, rfl⟩
theorem pairsNil (N : Nat → Prop) (w : World) : PairsAt N w (.slice none 0 0) [] := .inl ⟨rfl, rfl⟩
theorem RefsAt.below {N : Nat → Prop} {w W : World} {v : Value} {xs : List Int} (h : RefsAt N w v xs) (hb : Below w.heap.size w W) : RefsAt N W v xs := h.keep (Keep.below hb (fun _ => False)) (fun _ h => h.elim) (fun _ h => .inl h)
theorem PairsAt.below {N : Nat → Prop} {w W : World} {v : Value} {xs : List Ct.Pair} (h : PairsAt N w v xs) (hb : Below w.heap.size w W) : PairsAt N W v xs := h.keep (Keep.below hb (fun _ => False)) (fun _ h => h.elim) (fun _ h => .inl h)
theorem own_C_any (N : Nat → Prop) (n : Ct.Node) (bv pv : Value) (w : World) (hk : n.kind = 3) (v1 : Ct.nodeEq n { kind := 3, bitmap := n.bitmap, branches := n.branches, prev := n.prev } = true) (h1 : RefsAt N w bv n.branches) (h2 : PairsAt N w pv n.pairs) (l1 : n.branches.length ≤ 1000000) (l2 : n.pairs.length ≤ 549755813888) :
    ∃ m bu pu, Ct.nodeEq n m = true ∧ RefsAt N w bu m.branches ∧ PairsAt N w pu m.pairs ∧ m.branches.length ≤ 1000000 ∧ m.pairs.length ≤ 549755813888 ∧ ∀ W, Calls Tryz.prog 242 #[.agg (nodeCells n bv pv).toArray] W fun e w' => e = .returned (.agg (nodeCells m bu pu).toArray) ∧ Below W.heap.size W w' :=
  ⟨_, bv, .slice none 0 0, v1, h1, pairsNil _ _, l1, Nat.zero_le _, fun W => own_C n bv pv W hk (by obtain ⟨p, c, e⟩ := h1.slice; exact ⟨_, _, _, e⟩)⟩
theorem range_below {w W : World} {b o : Nat} {cs : List Value} (hlt : b < w.heap.size) (hb : Below w.heap.size w W) (h : w.rangeAt b o cs) : W.rangeAt b o cs := fun j v hv => by
  rw [← h j v hv]; exact hb.cell (p := ⟨b, o + j, none⟩) hlt
theorem below_undrewQ {B : Nat} {w W : World} (h : Below B w.drew W) : Below B w W := ⟨h.os, h.tape, h.output, h.size, h.block⟩
set_option maxRecDepth 100000 in
set_option maxHeartbeats 1600000 in
theorem valid_C (N : Nat → Prop) (n : Ct.Node) (bv pv : Value) (w : World) (hk : n.kind = 3) (hv : n.valid = true) (h1 : RefsAt N w bv n.branches) (h2 : PairsAt N w pv n.pairs) (l1 : n.branches.length ≤ 1000000) (l2 : n.pairs.length ≤ 549755813888) (hb : n.bitmap < 18446744073709551616) (hks : ∀ p ∈ n.pairs, p.key.size ≤ 9223372036854775807) :
    Calls Tryz.prog 205 #[.agg (nodeCells n bv pv).toArray] w fun e w' => e = .returned (.bool true) ∧ Below w.heap.size w w' := by
  obtain ⟨v1, v2, v3, v4, v5, v6⟩ := Ct.valid3 hk hv
  have HB := Lib.hid ((Below.refl w.heap.size w).alloc (Nat.le_refl _) (.cells (nodeCells n bv pv).toArray 136))
  have HZ := Lib.hid (show (w.alloc (.cells (nodeCells n bv pv).toArray 136)).heap.size = w.heap.size + 1 by simp)
  have H1 := Lib.hid h1; have H2 := Lib.hid h2
  obtain ⟨m, bu, pu, he, h3, h4, l3, l4, HO⟩ := own_C_any N n bv pv w hk v1 h1 h2 l1 l2
  have HE := Lib.hid he; have H3 := Lib.hid h3; have H4 := Lib.hid h4
  have HOO := Lib.hid HO
  have HRA := Lib.hid (World.rangeAt_of_block (heap_alloc_at w (.cells (nodeCells n bv pv).toArray 136)) 0 14)
  clear HO hv v1 h1 h2 h3 h4 he
  go_enter Tryz.func205, Tryz.ntmps205
  go_wp2_with fail
  refine wp_region_held_drew (S := fun W' => W'.rangeAt w.heap.size 0 (nodeCells n bv pv)) (by kernel_rfl) HRA.out (fun hS => ?_)
  refine wpAnyH_take (i := 0) (oi := { dst := (some 3), op := (Op.load 136 (Operand.tmp 1)), type := 136, pos := "node.go:14", after := #[], guard := none }) (v := .agg (nodeCells n bv pv).toArray) rfl (by kernel_rfl) (by kernel_rfl) (by kernel_rfl) (fun _ _ _ h => h) (yieldsIf_load_mid (by rfl) 136 (.tmp 1) rfl w.heap.size 0 rfl (nodeCells n bv pv) _ (fun W' hW => hW) Tryz.underlying136 rfl info_Node_size) hS ?_
  (try simp only [Act.put, sI, sZ, sS])
  refine wpAnyH_take (i := 1) (oi := { dst := (some 4), op := (Op.load 136 (Operand.tmp 1)), type := 136, pos := "node.go:14", after := #[], guard := none }) (v := .agg (nodeCells n bv pv).toArray) rfl (by kernel_rfl) (by kernel_rfl) (by kernel_rfl) (fun _ _ _ h => h) (yieldsIf_load_mid (by rfl) 136 (.tmp 1) rfl w.heap.size 0 rfl (nodeCells n bv pv) _ (fun W' hW => hW) Tryz.underlying136 rfl info_Node_size) hS ?_
  (try simp only [Act.put, sI, sZ, sS])
  refine wpAnyH_ready (rs := [2]) (by kernel_rfl) (by simp) ?_
  refine AllReadyH.cons (o := { dst := (some 5), op := (Op.call { callee := (Callee.value (Operand.func 242)), args := #[(Operand.tmp 4)], argTypes := #[136] }), type := 136, pos := "node.go:14", after := #[⟨1, .data⟩], guard := none }) rfl (fun K hK => ?_) AllReadyH.nil
  go_simp
  refine (HOO.out _).mono ?_
  rintro e w1 ⟨rfl, hb1⟩
  refine hK.out _ _ (range_below (by simp) hb1 HRA.out) (fun hS => ?_)
  clear hK K
  (try simp only [Act.put, sI, sZ, sS])
  have HB1 := Lib.hid (below_then HB.out HB.out.size (below_undrewQ hb1))
  have HZ1 := Lib.hid (show w.heap.size < w1.heap.size by have := hb1.size; simp at this; omega)
  clear hb1
  refine wpAnyH_ready (rs := [3]) (by kernel_rfl) (by simp) ?_
  refine AllReadyH.cons (o := { dst := (some 6), op := (Op.call { callee := (Callee.value (Operand.func 241)), args := #[(Operand.tmp 3), (Operand.tmp 5)], argTypes := #[136, 136] }), type := 4, pos := "node.go:14", after := #[⟨0, .data⟩, ⟨2, .data⟩, ⟨2, .chain⟩], guard := none }) rfl (fun K hK => ?_) AllReadyH.nil
  go_simp
  refine (equal_yes N N _ n m bv pv bu pu (H1.out.below HB1.out) (H2.out.below HB1.out) (H3.out.below HB1.out) (H4.out.below HB1.out) l1 l2 l3 l4 HE.out).mono ?_
  rintro e w2 ⟨rfl, hb2⟩
  refine hK.out _ _ (range_below HZ1.out hb2 hS) (fun hS => ?_)
  clear hK K
  (try simp only [Act.put, sI, sZ, sS])
  have HB2 := Lib.hid (below_then HB1.out HB1.out.size hb2)
  have HS12 := Lib.hid hb2.size
  clear hb2
  refine wpAnyH_take (i := 4) (oi := { dst := (some 7), op := (Op.unOp UnOp.not 4 (Operand.tmp 6)), type := 4, pos := "node.go:14", after := #[⟨3, .data⟩], guard := none }) (v := .bool false) rfl (by kernel_rfl) (by kernel_rfl) (by kernel_rfl) (fun _ _ _ h => h) (Or.inl ⟨by rfl, fun W' hW => ?_⟩) hS ?_
  · go_simp
  (try simp only [Act.put, sI, sZ, sS])
  refine wpAnyH_done (by kernel_rfl) ?_ _
  have c0 : w2.cell? ⟨w.heap.size, 0, none⟩ = some (.int .i64 3) := by rw [← hk]; exact hS 0 _ rfl
  have c2 : w2.cell? ⟨w.heap.size, 2, none⟩ = some (.int .i64 0) := by rw [← v2]; exact hS 2 _ rfl
  have c9 : w2.cell? ⟨w.heap.size, 9, none⟩ = some (.int .i64 n.prev) := hS 9 _ rfl
  have c13 : w2.cell? ⟨w.heap.size, 13, none⟩ = some (.int .i64 0) := by rw [← v4]; exact hS 13 _ rfl
  obtain ⟨p, cap, ebv⟩ := H1.out.slice
  rw [v6] at ebv
  have c3 : w2.cell? ⟨w.heap.size, 3, none⟩ = some (.int .u64 (n.bitmap : Nat)) := hS 3 _ rfl
  have c4 : w2.cell? ⟨w.heap.size, 4, none⟩ = some (.slice p (Bm.pop 64 n.bitmap) cap) := by rw [← ebv]; exact hS 4 _ rfl
  have HAN := Lib.hid (fun k => (allNodes_any N (w2.drewN k) bv n.branches (H1.out.below (below_drewN HB2.out k)) l1).mono (fun e w' h => And.intro h.1 h.2.symm))
  rw [v5, ebv] at HAN
  have HCN := Lib.hid (fun W => (count_any n.bitmap hb W).mono (fun e w' h => And.intro h.1 h.2.symm))
  have hpl : Bm.pop 64 n.bitmap ≤ 1000000 := by omega
  clear hS ebv H1 HE HOO v5 v6 hk
  generalize Bm.pop 64 n.bitmap = L at *
  go_wp2_with fail
  go_quiet ((first | (go_at_call 207; exact Calls.quiet_of_same (HCN.out _)) | (go_at_call 243; exact Calls.quiet_of_same (HAN.out _))))
  go_wp2_with fail
  go_ret
  exact ⟨rfl, below_drewN HB2.out _⟩
end Go.Proofs.YtjlgchdekhmnnaaGreatDoor
end
section
namespace Go.Proofs.YtjlgchdekhmnnaaGreatDoor
open Go.RowKit
set_option linter.unusedVariables false
set_option linter.unusedSimpArgs false
theorem isC_iff {n : Ct.Node} (hf : n.fits 549755813886) : n.isC = (n.kind == 3) := by
  unfold Ct.Node.isC
  by_cases hk : n.kind = 3
  · simp [hk, hf.2.2.2.2.2.2 (.inl hk)]
  · simp [hk]
set_option maxRecDepth 100000 in
theorem bvalid_any (N : Nat → Prop) (n : Ct.Node) (bv pv : Value) (w : World) (hf : n.fits 549755813886) (h1 : RefsAt N w bv n.branches) (h2 : PairsAt N w pv n.pairs) :
    Calls Tryz.prog 174 #[.agg (nodeCells n bv pv).toArray] w fun e w' => e = .returned (.bool (n.kind == 3)) ∧ Below w.heap.size w w' := by
  have HB := Lib.hid ((Below.refl w.heap.size w).alloc (Nat.le_refl _) (.cells (nodeCells n bv pv).toArray 136))
  by_cases hk : n.kind = 3
  · have HV := Lib.hid (fun W (hb : Below w.heap.size w W) => valid_C N n bv pv W hk (hf.2.2.2.2.2.2 (.inl hk)) (h1.below hb) (h2.below hb) hf.1 hf.2.1 hf.2.2.1 hf.2.2.2.2.2.1)
    have q : (n.kind == 3) = true := by simp [hk]
    obtain ⟨p, c, rfl⟩ := h1.slice; obtain ⟨p', c', rfl⟩ := h2.slice
    clear hf h1 h2 hk
    unfold nodeCells at *
    rw [q]
    go_enter Tryz.func174, Tryz.ntmps174
    go_wp2_with (go_at_call 205; refine (HV.out _ HB.out).mono ?_; rintro e w1 ⟨rfl, hb1⟩)
    go_ret
    exact ⟨rfl, below_then HB.out HB.out.size hb1⟩
  · have q : (n.kind == 3) = false := by simp [hk]
    obtain ⟨p, c, rfl⟩ := h1.slice; obtain ⟨p', c', rfl⟩ := h2.slice
    clear hf h1 h2 hk
    unfold nodeCells at *
    rw [q]
    go_enter Tryz.func174, Tryz.ntmps174
    go_wp2_with fail
    go_ret
    exact ⟨rfl, HB.out⟩
theorem pop_le_pop : ∀ m n x, Bm.pop n x ≤ Bm.pop (n + m) x
  | 0, n, x => Nat.le_refl _
  | m + 1, n, x => Nat.le_trans (pop_le_pop m n x) (by rw [← Nat.add_assoc, Bm.pop_testBit]; omega)
theorem position_lt {b : Nat} {i : Int} (h : Bm.has b i = true) : Bm.position b i < Bm.pop 64 b := by
  unfold Bm.has at h
  simp only [Bool.and_eq_true, decide_eq_true_eq] at h
  obtain ⟨h0, h1, h2⟩ := h
  obtain ⟨x, rfl⟩ := Int.eq_ofNat_of_zero_le h0
  have hx : x < 64 := by omega
  have e : Bm.position b (x : Int) = Bm.pop x b := by
    unfold Bm.position Bm.cut
    by_cases z : (x : Int) ≤ 0
    · have : x = 0 := by omega
      subst this; rfl
    · rw [if_neg z, if_neg (by omega)]; rfl
  have s := Bm.pop_testBit x b
  have m := pop_le_pop (64 - (x + 1)) (x + 1) b
  rw [show x + 1 + (64 - (x + 1)) = 64 by omega] at m
  have hb : b.testBit x = true := h2
  rw [hb] at s
  simp at s
  omega
set_option maxRecDepth 100000 in
set_option maxHeartbeats 800000 in
theorem blookup_any (N : Nat → Prop) (n : Ct.Node) (bv pv : Value) (w : World) (i : Int) (hf : n.fits 549755813886) (h1 : RefsAt N w bv n.branches) (h2 : PairsAt N w pv n.pairs) :
    Calls Tryz.prog 146 #[.agg (nodeCells n bv pv).toArray, .int .i64 i] w fun e w' => e = .returned (.tuple #[.int .i64 (Ct.blookup n i).1, .bool (Ct.blookup n i).2]) ∧ Below w.heap.size w w' := by
  have HB := Lib.hid ((Below.refl w.heap.size w).alloc (Nat.le_refl _) (.cells (nodeCells n bv pv).toArray 136))
  have HV := Lib.hid (fun W (hb : Below w.heap.size w W) => bvalid_any N n bv pv W hf (h1.below hb) (h2.below hb))
  have hiC := isC_iff hf
  by_cases hk : n.kind = 3
  · have q : (n.kind == 3) = true := by simp [hk]
    rw [q] at HV hiC
    have hbm := hf.2.2.1
    have HH := Lib.hid (fun W => has_any n.bitmap i W hbm)
    cases hh : Bm.has n.bitmap i with
    | false =>
      have HL := Lib.hid (show Ct.blookup n i = (0, false) by unfold Ct.blookup; rw [if_pos (.inr hh)])
      rw [hh] at HH
      obtain ⟨p, c, rfl⟩ := h1.slice; obtain ⟨p', c', rfl⟩ := h2.slice
      rw [HL.out]
      clear hf h1 h2 hk hiC hh hbm q
      unfold nodeCells at *
      go_enter Tryz.func146, Tryz.ntmps146
      go_wp2_with (first
        | (go_at_call 174; refine (HV.out _ HB.out).mono ?_; rintro e w1 ⟨rfl, hb1⟩; have hc1 := bcell hb1; simp at hc1)
        | (go_at_call 175; refine (HH.out _).mono ?_; rintro e w2 ⟨rfl, rfl⟩))
      go_ret2
      exact ⟨rfl, below_then HB.out HB.out.size hb1⟩
    | true =>
      have hlt := position_lt hh
      have hlen := (Ct.valid3 hk (hf.2.2.2.2.2.2 (.inl hk))).2.2.2.2.2
      rw [← hlen] at hlt
      have HL := Lib.hid (show Ct.blookup n i = (n.branches.getD (Bm.position n.bitmap i) 0, true) by unfold Ct.blookup; rw [if_neg (by rw [hiC, hh]; simp)])
      have HP := Lib.hid (fun W => (position_any n.bitmap i W hbm).mono (R' := fun e w' => e = .returned (.int .i64 (Bm.position n.bitmap i : Nat)) ∧ w' = W) (fun e w' h => And.intro h.1 h.2.symm))
      rw [hh] at HH
      rcases h1 with ⟨rfl, h0⟩ | ⟨b, off, cap, rfl, hN, hb, hc, hm, hcell⟩
      · rw [h0] at hlt; simp at hlt
      obtain ⟨p', c', rfl⟩ := h2.slice
      have hl1 := hf.1
      have c := hcell _ hlt
      have HBB := Lib.hid hb
      rw [HL.out]
      clear hf h2 hk hiC hh hbm q hcell hN hb hlen
      generalize Bm.position n.bitmap i = j at HP c hlt ⊢
      generalize n.branches.getD j 0 = x at c ⊢
      unfold nodeCells at *
      go_enter Tryz.func146, Tryz.ntmps146
      go_wp2_with (first
        | (go_at_call 174; refine (HV.out _ HB.out).mono ?_; rintro e w1 ⟨rfl, hb1⟩; have hc1 := bcell hb1; simp at hc1; have d := below_cell (below_then HB.out HB.out.size hb1) HBB.out c)
        | (go_at_call 175; refine (HH.out _).mono ?_; rintro e w2 ⟨rfl, rfl⟩))
      go_quiet ((go_at_call 176; exact Calls.quiet_of_same (HP.out _)))
      go_wp2_with fail
      go_ret2
      exact ⟨rfl, below_drewN (below_then HB.out HB.out.size hb1) _⟩
  · have q : (n.kind == 3) = false := by simp [hk]
    rw [q] at HV hiC
    have HL := Lib.hid (show Ct.blookup n i = (0, false) by unfold Ct.blookup; rw [if_pos (.inl hiC)])
    obtain ⟨p, c, rfl⟩ := h1.slice; obtain ⟨p', c', rfl⟩ := h2.slice
    rw [HL.out]
    clear hf h1 h2 hk hiC q
    unfold nodeCells at *
    go_enter Tryz.func146, Tryz.ntmps146
    go_wp2_with (go_at_call 174; refine (HV.out _ HB.out).mono ?_; rintro e w1 ⟨rfl, hb1⟩)
    go_ret2
    exact ⟨rfl, below_then HB.out HB.out.size hb1⟩
end Go.Proofs.YtjlgchdekhmnnaaGreatDoor
end
section
namespace Go.Ct
set_option linter.unusedSimpArgs false
theorem bytesLess_iff : ∀ a b : List UInt8, Op.bytesLess a b = true ↔ Lib.compareBytes a b < 0
  | [], [] => by simp [Op.bytesLess, Lib.compareBytes]
  | [], _ :: _ => by simp [Op.bytesLess, Lib.compareBytes]
  | _ :: _, [] => by simp [Op.bytesLess, Lib.compareBytes]
  | x :: a, y :: b => by
    have ih := bytesLess_iff a b
    unfold Op.bytesLess Lib.compareBytes
    by_cases h1 : x < y
    · simp [h1]
    · by_cases h2 : y < x
      · have : x ≠ y := fun e => by subst e; exact h1 h2
        simp [h1, h2, this]
      · have e : x = y := UInt8.le_antisymm (UInt8.not_lt.1 h2) (UInt8.not_lt.1 h1)
        subst e
        simp [h1, ih]
theorem cmp_zero_iff : ∀ a b : List UInt8, Lib.compareBytes a b = 0 ↔ a = b
  | [], [] => by simp [Lib.compareBytes]
  | [], _ :: _ => by simp [Lib.compareBytes]
  | _ :: _, [] => by simp [Lib.compareBytes]
  | x :: a, y :: b => by
    have ih := cmp_zero_iff a b
    unfold Lib.compareBytes
    by_cases h1 : x < y
    · have : x ≠ y := fun e => by subst e; exact UInt8.lt_irrefl x h1
      simp [h1, this]
    · by_cases h2 : y < x
      · have : x ≠ y := fun e => by subst e; exact UInt8.lt_irrefl x h2
        simp [h1, h2, this]
      · have e : x = y := UInt8.le_antisymm (UInt8.not_lt.1 h2) (UInt8.not_lt.1 h1)
        subst e
        simp [h1, ih]
theorem bytesLess_trans : ∀ a b c : List UInt8, Op.bytesLess a b = true → Op.bytesLess b c = true → Op.bytesLess a c = true
  | [], [], c, h, _ => by simp [Op.bytesLess] at h
  | [], _ :: _, [], _, k => by simp [Op.bytesLess] at k
  | [], _ :: _, _ :: _, _, _ => by simp [Op.bytesLess]
  | _ :: _, [], _, h, _ => by simp [Op.bytesLess] at h
  | _ :: _, _ :: _, [], _, k => by simp [Op.bytesLess] at k
  | x :: a, y :: b, z :: c, h, k => by
    unfold Op.bytesLess at h k ⊢
    simp only [Bool.or_eq_true, Bool.and_eq_true, decide_eq_true_eq, beq_iff_eq] at h k ⊢
    rcases h with h | ⟨rfl, h⟩
    · rcases k with k | ⟨rfl, k⟩
      · exact .inl (UInt8.lt_trans h k)
      · exact .inl h
    · rcases k with k | ⟨rfl, k⟩
      · exact .inl k
      · exact .inr ⟨rfl, bytesLess_trans a b c h k⟩
theorem toList_data (a : ByteArray) : a.toList = a.data.toList := ByteArray.toList_eq a
theorem keyLt_iff (a b : ByteArray) : keyLt a b = true ↔ Lib.compareBytes a.data.toList b.data.toList < 0 := by
  unfold keyLt; rw [bytesLess_iff, toList_data, toList_data]
theorem keyEq_iff (a b : ByteArray) : keyEq a b = true ↔ Lib.compareBytes a.data.toList b.data.toList = 0 := by
  unfold keyEq; rw [cmp_zero_iff, toList_data, toList_data, beq_iff_eq]
theorem keyLt_trans {a b c : ByteArray} (h : keyLt a b = true) (k : keyLt b c = true) : keyLt a c = true := bytesLess_trans _ _ _ h k
theorem pv_tail {a : Pair} {l : List Pair} (h : pairsValid (a :: l) = true) : pairsValid l = true := by
  cases l with
  | nil => rfl
  | cons b l => rw [pairsValid, Bool.and_eq_true] at h; exact h.2
theorem pv_head : ∀ {a : Pair} {l : List Pair}, pairsValid (a :: l) = true → ∀ q ∈ l, keyLt a.key q.key = true
  | a, [], _, q, hq => by cases hq
  | a, b :: l, h, q, hq => by
    have h1 : keyLt a.key b.key = true := by rw [pairsValid, Bool.and_eq_true] at h; exact h.1
    rcases List.mem_cons.1 hq with rfl | hq
    · exact h1
    · exact keyLt_trans h1 (pv_head (pv_tail h) q hq)
theorem pv_lt : ∀ (l : List Pair), pairsValid l = true → ∀ m n, m < n → n < l.length → keyLt (pat l m).key (pat l n).key = true
  | [], _, m, n, _, hn => by simp at hn
  | a :: l, h, m, n, hm, hn => by
    obtain ⟨n, rfl⟩ : ∃ k, n = k + 1 := ⟨n - 1, by omega⟩
    have hn' : n < l.length := by simpa using hn
    have e2 : pat (a :: l) (n + 1) = pat l n := by simp [pat]
    rw [e2]
    cases m with
    | zero =>
      refine pv_head h _ ?_
      unfold pat; rw [List.getD_eq_getElem?_getD, List.getElem?_eq_getElem hn']; exact List.getElem_mem hn'
    | succ m =>
      rw [show pat (a :: l) (m + 1) = pat l m by simp [pat]]
      exact pv_lt l (pv_tail h) m n (by omega) hn'
theorem pbelow_le : ∀ (l : List Pair) (key : ByteArray), pbelow l key ≤ l.length
  | [], _ => Nat.le_refl _
  | q :: l, key => by
    unfold pbelow; split
    · have := pbelow_le l key; simp; omega
    · simp
theorem pbelow_lt : ∀ (l : List Pair) (key : ByteArray) (m : Nat), m < pbelow l key → keyLt (pat l m).key key = true
  | [], _, m, h => by simp [pbelow] at h
  | q :: l, key, m, h => by
    unfold pbelow at h
    split at h
    · rename_i hq
      cases m with
      | zero => simpa [pat] using hq
      | succ m => rw [show pat (q :: l) (m + 1) = pat l m by simp [pat]]; exact pbelow_lt l key m (by omega)
    · omega
theorem pbelow_at : ∀ (l : List Pair) (key : ByteArray), pbelow l key < l.length → keyLt (pat l (pbelow l key)).key key = false
  | [], _, h => by simp at h
  | q :: l, key, h => by
    unfold pbelow at h ⊢
    split
    · rename_i hq
      rw [if_pos hq] at h
      rw [show pat (q :: l) (pbelow l key + 1) = pat l (pbelow l key) by simp [pat]]
      exact pbelow_at l key (by simpa using h)
    · rename_i hq
      simpa [pat] using hq
theorem pbelow_eq (l : List Pair) (key : ByteArray) (i : Nat) (hi : i ≤ l.length) (h1 : ∀ m, m < i → keyLt (pat l m).key key = true) (h2 : ∀ m, i ≤ m → m < l.length → keyLt (pat l m).key key = false) : pbelow l key = i := by
  rcases Nat.lt_trichotomy (pbelow l key) i with h | h | h
  · have := pbelow_at l key (by omega)
    rw [h1 _ h] at this; cases this
  · exact h
  · have h3 := pbelow_lt l key i h
    rw [h2 i (Nat.le_refl _) (by have := pbelow_le l key; omega)] at h3; cases h3
theorem keyLt_up {l : List Pair} {key : ByteArray} (hv : pairsValid l = true) {m n : Nat} (hmn : m ≤ n) (hn : n < l.length) (h : keyLt (pat l n).key key = true) : keyLt (pat l m).key key = true := by
  rcases Nat.eq_or_lt_of_le hmn with rfl | hlt
  · exact h
  · exact keyLt_trans (pv_lt l hv m n hlt hn) h
theorem keyLt_down {l : List Pair} {key : ByteArray} (hv : pairsValid l = true) {m n : Nat} (hmn : m ≤ n) (hn : n < l.length) (h : keyLt (pat l m).key key = false) : keyLt (pat l n).key key = false := by
  cases hk : keyLt (pat l n).key key with
  | false => rfl
  | true => rw [keyLt_up hv hmn hn hk] at h; cases h
end Go.Ct
end
