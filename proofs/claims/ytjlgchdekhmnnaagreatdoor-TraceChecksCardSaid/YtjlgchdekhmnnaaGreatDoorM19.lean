/- Parts of a proof: Pu. -/
import Derived.Test.YtjlgchdekhmnnaaGreatDoorM18
import Derived.Lib.Bytealg
section
namespace Go.Proofs.YtjlgchdekhmnnaaGreatDoor
open Go.RowKit
set_option linter.unusedVariables false
set_option linter.unusedSimpArgs false
set_option maxRecDepth 100000 in
theorem cmpString_any (a b : ByteArray) (w : World) :
    Calls Tryz.prog 246 #[.string a, .string b] w fun e w' => e = .returned (.int .i64 (Lib.compareBytes a.data.toList b.data.toList)) ∧ w = w' := by
  go_enter Tryz.func246, Tryz.ntmps246
  go_wp2
  rw [run_callFunc_extern Tryz.func270 (by kernel_rfl) (by kernel_rfl) (by kernel_rfl) (e := Extern.BytealgCompare.compare) (by kernel_rfl), Lib.run_compareString]
  simp only [Result.andThen]
  rw [Oper.upon_value]
  go_wp2
  go_ret
  exact ⟨rfl, rfl⟩
theorem compare_any (a b : ByteArray) (w : World) :
    Calls Tryz.prog 210 #[.string a, .string b] w fun e w' => e = .returned (.int .i64 (Lib.compareBytes a.data.toList b.data.toList)) ∧ w = w' := by
  go_enter Tryz.func210, Tryz.ntmps210
  go_wp2_with (go_at_call 246; refine (cmpString_any _ _ _).mono ?_; rintro e w' ⟨rfl, rfl⟩)
  go_ret
  exact ⟨rfl, rfl⟩
theorem cmpPair_any (k : ByteArray) (v : Nat) (key : ByteArray) (w : World) :
    Calls Tryz.prog 209 #[.agg #[.string k, .int .u64 (v : Nat)], .string key] w fun e w' => e = .returned (.int .i64 (Lib.compareBytes k.data.toList key.data.toList)) ∧ Below w.heap.size w w' := by
  go_enter Tryz.func209, Tryz.ntmps209
  go_wp2_with (go_at_call 210; refine (compare_any _ _ _).mono ?_; rintro e w' ⟨rfl, rfl⟩)
  go_ret
  exact ⟨rfl, (Below.refl _ _).alloc (Nat.le_refl _) _⟩
theorem pat_view {N : Nat → Prop} {w : World} {v : Value} {xs : List Ct.Pair} (h : PairsAt N w v xs) : ∃ p cap, v = .slice p xs.length cap ∧ ∀ j, j < xs.length → ∃ b off, p = some ⟨b, off, none⟩ ∧ b < w.heap.size ∧ w.cell? ⟨b, off + j * 2, none⟩ = some (.string (Ct.pat xs j).key) ∧ w.cell? ⟨b, off + j * 2 + 1, none⟩ = some (.int .u64 ((Ct.pat xs j).value : Nat)) := h.view
set_option maxRecDepth 100000 in
set_option maxHeartbeats 800000 in
theorem search_any (N : Nat → Prop) (w : World) (v : Value) (xs : List Ct.Pair) (key : ByteArray) (h : PairsAt N w v xs) (hl : xs.length ≤ 549755813888) (hv : Ct.pairsValid xs = true) :
    Calls Tryz.prog 208 #[v, .string key, .func (.func 209) #[] #[]] w fun e w' => e = .returned (.tuple #[.int .i64 (Ct.pbelow xs key : Nat), .bool (Ct.phas xs key)]) ∧ Below w.heap.size w w' := by
  obtain ⟨p, cap, rfl, hc⟩ := pat_view h
  have HC := Lib.hid hc; have HV := Lib.hid hv
  have hent : ∀ args w, (callFunc 209 args).run Tryz.prog w = .ok (.enter 209 args) w := Go.Proofs.enters_of Tryz.func209 (by kernel_rfl) rfl
  clear hc h hv
  go_enter Tryz.func208, Tryz.ntmps208
  go_wp2_with fail
  go_loopw [9, 10] (fun a b W => ∃ i j : Nat, i ≤ j ∧ j ≤ xs.length ∧ a = .int .i64 (i : Int) ∧ b = .int .i64 (j : Int) ∧ (∀ m, m < i → Ct.keyLt (Ct.pat xs m).key key = true) ∧ (∀ m, j ≤ m → m < xs.length → Ct.keyLt (Ct.pat xs m).key key = false) ∧ Below w.heap.size w W) (fun a b _ => (intOf b).toNat - (intOf a).toNat)
  case atStart => exact ⟨0, xs.length, by omega, by omega, rfl, rfl, fun m hm => by omega, fun m h1 h2 => by omega, Below.refl _ _⟩
  case round =>
    obtain ⟨i, j, hij, hj, rfl, rfl, hlo, hhi, hB⟩ := hrel
    have HLO := Lib.hid hlo; have HHI := Lib.hid hhi
    clear hlo hhi
    by_cases hlt : i < j
    · have hh : (i + j) / 2 < xs.length := by omega
      obtain ⟨b, off, rfl, hb, c0, c1⟩ := HC.out _ hh
      have d0 := below_cell hB hb c0; have d1 := below_cell hB hb c1
      clear c0 c1
      have HCP := Lib.hid (cmpPair_any (Ct.pat xs ((i + j) / 2)).key (Ct.pat xs ((i + j) / 2)).value key)
      have E2 := Lib.hid (show ((i : Int) + j) / 2 = (((i + j) / 2 : Nat) : Int) by omega)
      cases hk : Ct.keyLt (Ct.pat xs ((i + j) / 2)).key key with
      | true =>
        have HLO2 := Lib.hid (show ∀ m, m < (i + j) / 2 + 1 → Ct.keyLt (Ct.pat xs m).key key = true from fun m hm => Ct.keyLt_up HV.out (by omega) hh hk)
        have hneg := (Ct.keyLt_iff _ _).1 hk
        clear hk
        generalize Lib.compareBytes (Ct.pat xs ((i + j) / 2)).key.data.toList key.data.toList = C at HCP hneg
        go_wp2_with (go_at_call 209; refine (HCP.out _).mono ?_; rintro e w1 ⟨rfl, hb1⟩)
        go_roundw
        case rel => exact ⟨(i + j) / 2 + 1, j, by omega, hj, by rw [E2.out]; go_num, rfl, HLO2.out, HHI.out, below_then hB hB.size hb1⟩
        case measure => simp [intOf]; omega
      | false =>
        have HHI2 := Lib.hid (show ∀ m, (i + j) / 2 ≤ m → m < xs.length → Ct.keyLt (Ct.pat xs m).key key = false from fun m h1 hm => Ct.keyLt_down HV.out h1 hm hk)
        have hneg : ¬ Lib.compareBytes (Ct.pat xs ((i + j) / 2)).key.data.toList key.data.toList < 0 := fun hn => by rw [(Ct.keyLt_iff _ _).2 hn] at hk; cases hk
        clear hk
        generalize Lib.compareBytes (Ct.pat xs ((i + j) / 2)).key.data.toList key.data.toList = C at HCP hneg
        go_wp2_with (go_at_call 209; refine (HCP.out _).mono ?_; rintro e w1 ⟨rfl, hb1⟩)
        go_roundw
        case rel => exact ⟨i, (i + j) / 2, by omega, by omega, rfl, by rw [E2.out], HLO.out, HHI2.out, below_then hB hB.size hb1⟩
        case measure => simp [intOf]; omega
    · obtain rfl : i = j := by omega
      have HP := Lib.hid (Ct.pbelow_eq xs key i hj HLO.out HHI.out)
      by_cases hin : i < xs.length
      · obtain ⟨b, off, rfl, hb, c0, c1⟩ := HC.out _ hin
        have d0 := below_cell hB hb c0; have d1 := below_cell hB hb c1
        clear c0 c1
        have HCP := Lib.hid (cmpPair_any (Ct.pat xs i).key (Ct.pat xs i).value key)
        have HPH := Lib.hid (show Ct.phas xs key = (Lib.compareBytes (Ct.pat xs i).key.data.toList key.data.toList == 0) by
          unfold Ct.phas
          rw [HP.out, Bool.eq_iff_iff]
          simp only [Bool.and_eq_true, decide_eq_true_eq, Ct.keyEq_iff, beq_iff_eq, hin, true_and])
        generalize Lib.compareBytes (Ct.pat xs i).key.data.toList key.data.toList = C at HCP HPH
        go_wp2_with (go_at_call 209; refine (HCP.out _).mono ?_; rintro e w1 ⟨rfl, hb1⟩)
        go_ret2
        exact ⟨by rw [HP.out, HPH.out]; rfl, below_then hB hB.size hb1⟩
      · have HPH := Lib.hid (show Ct.phas xs key = false by unfold Ct.phas; rw [HP.out]; simp [hin])
        go_wp2_with fail
        go_ret2
        exact ⟨by rw [HP.out, HPH.out]; rfl, hB⟩
set_option maxRecDepth 100000 in
theorem pposition_any (N : Nat → Prop) (w : World) (v : Value) (xs : List Ct.Pair) (key : ByteArray) (h : PairsAt N w v xs) (hl : xs.length ≤ 549755813888) (hv : Ct.pairsValid xs = true) :
    Calls Tryz.prog 178 #[v, .string key] w fun e w' => e = .returned (.tuple #[.int .i64 (Ct.pbelow xs key : Nat), .bool (Ct.phas xs key)]) ∧ Below w.heap.size w w' := by
  have HS := Lib.hid (search_any N w v xs key h hl hv)
  clear h hl hv
  go_enter Tryz.func178, Tryz.ntmps178
  go_wp2_with (go_at_call 208; refine HS.out.mono ?_; rintro e w1 ⟨rfl, hb1⟩)
  go_ret2
  exact ⟨rfl, hb1⟩
set_option maxRecDepth 100000 in
theorem pfind_any (N : Nat → Prop) (w : World) (v : Value) (xs : List Ct.Pair) (key : ByteArray) (h : PairsAt N w v xs) (hl : xs.length ≤ 549755813888) (hv : Ct.pairsValid xs = true) :
    Calls Tryz.prog 150 #[v, .string key] w fun e w' => e = .returned (.tuple #[.int .u64 ((Ct.pfind xs key).1 : Nat), .bool (Ct.pfind xs key).2]) ∧ Below w.heap.size w w' := by
  have HV := Lib.hid (pairsValid_any N w v xs h hl)
  rw [hv] at HV
  have HP := Lib.hid (fun W (hb : Below w.heap.size w W) => pposition_any N W v xs key (h.below hb) hl hv)
  have hle := Ct.pbelow_le xs key
  obtain ⟨p, cap, rfl, hc⟩ := pat_view h
  cases hh : Ct.phas xs key with
  | false =>
    have HF := Lib.hid (show Ct.pfind xs key = (0, false) by unfold Ct.pfind; rw [hh]; simp)
    rw [HF.out]
    rw [hh] at HP
    clear h hv hc hh
    generalize Ct.pbelow xs key = i at *
    go_enter Tryz.func150, Tryz.ntmps150
    go_wp2_with (first
      | (go_at_call 177; refine HV.out.mono ?_; rintro e w1 ⟨rfl, hb1⟩; have HB1 := Lib.hid hb1; clear hb1)
      | (go_at_call 178; refine (HP.out _ HB1.out).mono ?_; rintro e w2 ⟨rfl, hb2⟩; have HB2 := Lib.hid (below_then HB1.out HB1.out.size hb2); clear hb2))
    go_ret2
    exact ⟨rfl, HB2.out⟩
  | true =>
    have HF := Lib.hid (show Ct.pfind xs key = ((Ct.pat xs (Ct.pbelow xs key)).value, true) by unfold Ct.pfind; rw [hh, hv]; simp)
    have hlt : Ct.pbelow xs key < xs.length := by unfold Ct.phas at hh; simp at hh; exact hh.1
    obtain ⟨b, off, rfl, hb, c0, c1⟩ := hc _ hlt
    rw [HF.out]
    rw [hh] at HP
    clear h hv hc hh c0
    have HBB := Lib.hid hb
    generalize Ct.pbelow xs key = i at *
    generalize (Ct.pat xs i).value = x at *
    go_enter Tryz.func150, Tryz.ntmps150
    go_wp2_with (first
      | (go_at_call 177; refine HV.out.mono ?_; rintro e w1 ⟨rfl, hb1⟩; have HB1 := Lib.hid hb1; clear hb1)
      | (go_at_call 178; refine (HP.out _ HB1.out).mono ?_; rintro e w2 ⟨rfl, hb2⟩; have HB2 := Lib.hid (below_then HB1.out HB1.out.size hb2); clear hb2; have d := below_cell HB2.out HBB.out c1))
    go_ret2
    exact ⟨rfl, HB2.out⟩
end Go.Proofs.YtjlgchdekhmnnaaGreatDoor
end
