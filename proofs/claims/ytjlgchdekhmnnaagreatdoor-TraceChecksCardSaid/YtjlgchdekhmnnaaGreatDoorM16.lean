/- Parts of a proof: Kwt, BmFns, BmOps, Ph. -/
import Derived.Test.YtjlgchdekhmnnaaGreatDoorM05
import Derived.Test.YtjlgchdekhmnnaaGreatDoorProg
import Derived.Test.YtjlgchdekhmnnaaGreatDoorM00
import Derived.WalkKit
import Derived.IntWalk
import Derived.WalkSpells
import Derived.WalkLawsBesides
import Derived.Laws.Bits64b
import Derived.Lib.TrailingZeros
import Derived.Lib.Hide
import Derived.Test.YtjlgchdekhmnnaaGreatDoorM01
section
namespace Go.Ct
set_option linter.unusedSimpArgs false
inductive How where
  | ref | bool | thunk | ref2
  deriving DecidableEq
def K.how : K → How
  | .again1 .. | .back1 .. | .root3 .. | .complete1 .. | .decide2 .. | .repl1 .. | .clr3 .. | .part3 .. => .bool
  | .help3 .. | .repl2 .. | .clr0 .. | .snap0 .. | .frz0 .. | .fin .. => .thunk
  | .snapP | .frzP => .ref2
  | .swap1 .. | .ren2 .. | .putA .. | .putS .. | .drpA .. | .drpS .. | .drpX .. => .bool
  | .fnd0 .. | .put0 .. | .drp0 .. => .thunk
  | _ => .ref
def KeyOk (key : ByteArray) (hash : Nat) : Prop := hash < 18446744073709551616 ∧ key.size ≤ 9223372036854775807
def Look.ok (l : Look) : Prop := KeyOk l.key l.hash
def Setting.ok (p : Setting) : Prop := KeyOk p.key p.hash
def Removal.ok (d : Removal) : Prop := KeyOk d.key d.hash
def K.wt : K → Prop
  | .read1 _ _ th | .settle1 _ _ _ _ th | .again1 _ _ _ _ th | .again2 _ _ _ th | .back1 _ th | .root1 _ th | .root2 _ _ _ th | .root3 _ _ _ th | .root4 _ _ th | .complete1 _ th
  | .help1 _ th | .help2 _ _ _ th | .help3 _ _ _ th | .help4 _ _ th => th.how = .ref ∧ th.wt
  | .sroot _ _ _ _ ag => ag.how = .bool ∧ ag.wt
  | .decide1 _ th | .decide2 th => th.how = .thunk ∧ th.wt
  | .repl1 _ _ _ th | .repl2 _ _ _ th | .repl3 _ _ th | .repl4 _ th => th.how = .bool ∧ th.wt
  | .part1 _ th | .part2 _ _ th | .part3 _ _ _ th => th.how = .ref2
  | .fnd0 _ l | .fnd1 _ l | .fnd2 _ l _ => l.ok
  | .swap1 .. | .swap2 .. | .ren1 .. | .ren2 .. | .cln1 .. | .cln2 .. | .put0 .. | .putB .. | .putV .. | .putA .. | .putR .. | .putS .. => False
  | .drp0 .. | .drpB .. | .drpV .. | .drpA .. | .drpR .. | .drpS .. | .drpU .. | .drpX .. => False
  | _ => True
def Code.wt : Code → Prop
  | .done _ => True
  | .load _ k => k.how = .ref ∧ k.wt
  | .cas _ _ _ k => k.how = .bool ∧ k.wt
theorem apply2_wt {σ : Type} (O : Ops σ) (k : K) (x y : Int) (s : σ) : (apply2 O k x y s).1.wt := by
  unfold apply2; split <;> simp [copiedC, frozenC, Code.wt]
section
variable {σ : Type} (O : Ops σ)
theorem readC_wt {t : Trie} {i : Int} {th : K} {s : σ} (h : th.how = .ref) (h2 : th.wt) : (readC O t i th s).1.wt := ⟨rfl, h, h2⟩
theorem helpC_wt {t : Trie} {th : K} {s : σ} (h : th.how = .ref) (h2 : th.wt) : (helpC t th s).1.wt := ⟨rfl, h, h2⟩
theorem pairC_wt (l : Look) (x : Node) : (pairC l x).wt := by unfold pairC present absent; split <;> trivial
theorem fndVisit_wt {t : Trie} {l : Look} {v m : Int} {s : σ} (h : l.ok) : (fndVisit O t l v m s).1.wt := by
  unfold fndVisit; repeat' split
  all_goals first
    | exact pairC_wt _ _
    | exact readC_wt O rfl h
    | trivial
end
theorem apply_wt {σ : Type} (O : Ops σ) (k : K) : k.wt → ∀ (x : Int) (s : σ), (apply O k x s).1.wt := by
  induction k <;> intro hk x s
  case fnd0 => unfold apply; split <;> first | exact helpC_wt rfl hk | trivial
  case fnd1 => unfold apply; exact readC_wt O rfl hk
  case fnd2 => unfold apply; exact fndVisit_wt O hk
  all_goals first | exact False.elim hk | skip
  all_goals simp only [apply, readC, settleC, backC, decideC, rootC, completeC, helpC, rdecideC, replaceC, clearC, partedC, begunC, copiedC, frozenC] <;> (repeat' split) <;>
    first
    | (simp only [Code.wt, K.wt, K.how] at hk ⊢; simp_all; done)
    | (rename_i ih _; exact ih hk.2 _ _)
    | (rename_i ih _ _; exact ih hk.2 _ _)
    | (rename_i ih; exact ih hk.2 _ _)
    | (rename_i ih _ _ _; exact ih hk.2 _ _)
    | exact apply2_wt O _ _ _ _
    | trivial
section
variable {σ : Type} (O : Ops σ)
end
end Go.Ct
end
section
namespace Go.Proofs.YtjlgchdekhmnnaaGreatDoor
open Go.RowKit
theorem and_u64 (a b : Nat) (ha : a < 18446744073709551616) (hb : b < 18446744073709551616) : bits .and .u64 (a : Int) (b : Int) = ((a &&& b : Nat) : Int) := bits_and_u64_nat a b ha hb
theorem wrap_nat (a : Nat) (h : a < 18446744073709551616) : IntKind.u64.wrap (a : Int) = (a : Int) := by rw [IntKind.wrap_u64]; omega
theorem wrap_add (a b : Nat) (h : a + b < 18446744073709551616) : IntKind.u64.wrap ((a : Int) + (b : Int)) = ((a + b : Nat) : Int) := by rw [IntKind.wrap_u64]; omega
theorem and_i64_127 (y : Nat) (_h : y < 18446744073709551616) : bits .and .i64 (wrap64 (y : Int)) 127 = ((y % 128 : Nat) : Int) := by
  have h1 : (BitVec.ofInt 64 (wrap64 (y : Int))) = BitVec.ofNat 64 y := by
    apply BitVec.eq_of_toNat_eq
    rw [BitVec.toNat_ofInt, BitVec.toNat_ofNat]
    unfold wrap64
    omega
  show IntKind.i64.wrap ((BitVec.ofInt 64 (wrap64 (y : Int)) &&& BitVec.ofInt 64 127).toNat : Int) = _
  rw [h1]
  have h2 : (BitVec.ofNat 64 y &&& BitVec.ofInt 64 127).toNat = y % 128 := by
    rw [BitVec.toNat_and]
    have e : (BitVec.ofInt 64 127).toNat = 2 ^ 7 - 1 := by decide
    rw [e, Nat.and_two_pow_sub_one_eq_mod, BitVec.toNat_ofNat]
    omega
  rw [h2]
  exact IntWalk.i64_in _ (by omega)
set_option maxHeartbeats 1000000 in
theorem onesCount_core (x s1 s2 s4 y1 y2 y3 p : Nat) (w : World)
    (e1 : IntKind.u64.wrap (bits .and .u64 ((x : Int) / 2) 6148914691236517205 + bits .and .u64 (x : Int) 6148914691236517205) = (s1 : Int))
    (e2 : IntKind.u64.wrap (bits .and .u64 ((s1 : Int) / 4) 3689348814741910323 + bits .and .u64 (s1 : Int) 3689348814741910323) = (s2 : Int))
    (e4 : bits .and .u64 (IntKind.u64.wrap ((s2 : Int) / 16 + (s2 : Int))) 1085102592571150095 = (s4 : Int))
    (f1 : IntKind.u64.wrap ((s4 : Int) + (s4 : Int) / 256) = (y1 : Int))
    (f2 : IntKind.u64.wrap ((y1 : Int) + (y1 : Int) / 65536) = (y2 : Int))
    (f3 : IntKind.u64.wrap ((y2 : Int) + (y2 : Int) / 4294967296) = (y3 : Int))
    (f4 : bits .and .i64 (wrap64 (y3 : Int)) 127 = (p : Int)) :
    Calls Tryz.prog 245 #[.int .u64 (x : Int)] w fun e w' => e = .returned (.int .i64 (p : Int)) ∧ w = w' := by
  go_enter Tryz.func245, Tryz.ntmps245
  go_wp2
  go_ret
  exact ⟨rfl, rfl⟩
theorem onesCount (x : Nat) (hx : x < 18446744073709551616) (w : World) :
    Calls Tryz.prog 245 #[.int .u64 (x : Int)] w fun e w' => e = .returned (.int .i64 (Bm.pop 64 x : Nat)) ∧ w = w' := by
  obtain ⟨y1, y2, y3, h1, h2, h3, l1, l2, l3, hp⟩ := Bm.fold8 x
  obtain ⟨m1, m2, m4⟩ := Bm.masks
  have b1 := Bm.sum1_lt 32 x
  have b2 := Bm.sum2_lt 16 x
  have k1 := Bm.step1 32 x
  have k2 := Bm.step2 16 x
  have k4 := Bm.step4 8 x
  simp only [Nat.reduceMul, Nat.reducePow] at b1 b2 k2 k4
  rw [m1] at k1
  rw [m2] at k2
  rw [m4] at k4
  have c1 : ((6148914691236517205 : Nat) : Int) = 6148914691236517205 := rfl
  have c2 : ((3689348814741910323 : Nat) : Int) = 3689348814741910323 := rfl
  have c4 : ((1085102592571150095 : Nat) : Int) = 1085102592571150095 := rfl
  refine onesCount_core x (Bm.sum1 32 x) (Bm.sum2 16 x) (Bm.sum4 8 x) y1 y2 y3 (Bm.pop 64 x) w ?_ ?_ ?_ ?_ ?_ ?_ ?_
  · rw [show (x : Int) / 2 = ((x / 2 : Nat) : Int) by omega, ← c1, and_u64 _ _ (by omega) (by decide), and_u64 _ _ (by omega) (by decide), wrap_add, k1]
    rw [k1]; omega
  · rw [show ((Bm.sum1 32 x : Nat) : Int) / 4 = ((Bm.sum1 32 x / 4 : Nat) : Int) by omega, ← c2, and_u64 _ _ (by omega) (by decide), and_u64 _ _ (by omega) (by decide), wrap_add, k2]
    rw [k2]; omega
  · rw [show ((Bm.sum2 16 x : Nat) : Int) / 16 = ((Bm.sum2 16 x / 16 : Nat) : Int) by omega, ← c4, wrap_add _ _ (by omega), and_u64 _ _ (by omega) (by decide), k4]
  · rw [show ((Bm.sum4 8 x : Nat) : Int) / 256 = ((Bm.sum4 8 x / 256 : Nat) : Int) by omega, wrap_add _ _ (by omega), h1]
  · rw [show (y1 : Int) / 65536 = ((y1 / 65536 : Nat) : Int) by omega, wrap_add _ _ (by omega), h2]
  · rw [show (y2 : Int) / 4294967296 = ((y2 / 4294967296 : Nat) : Int) by omega, wrap_add _ _ (by omega), h3]
  · rw [and_i64_127 y3 l3, hp]
theorem count_any (x : Nat) (hx : x < 18446744073709551616) (w : World) :
    Calls Tryz.prog 207 #[.int .u64 (x : Int)] w fun e w' => e = .returned (.int .i64 (Bm.pop 64 x : Nat)) ∧ w = w' := by
  go_enter Tryz.func207, Tryz.ntmps207
  go_wp2_with (go_at_call 245; refine (onesCount x hx _).mono ?_; rintro e w' ⟨rfl, rfl⟩)
  go_ret
  exact ⟨rfl, rfl⟩
theorem inRange_yes (i : Int) (w : World) (h0 : 0 ≤ i) (h1 : i < 64) :
    Calls Tryz.prog 206 #[.int .i64 i] w fun e w' => e = .returned (.bool true) ∧ w = w' := by
  go_enter Tryz.func206, Tryz.ntmps206
  go_wp2
  go_ret
  exact ⟨by simp, rfl⟩
theorem inRange_no (i : Int) (w : World) (h : i < 0 ∨ 64 ≤ i) :
    Calls Tryz.prog 206 #[.int .i64 i] w fun e w' => e = .returned (.bool false) ∧ w = w' := by
  rcases h with h | h
  · go_enter Tryz.func206, Tryz.ntmps206
    go_wp2
    go_ret
    exact ⟨rfl, rfl⟩
  · go_enter Tryz.func206, Tryz.ntmps206
    go_wp2
    go_ret
    exact ⟨by simp; omega, rfl⟩
end Go.Proofs.YtjlgchdekhmnnaaGreatDoor
end
section
namespace Go.Proofs.YtjlgchdekhmnnaaGreatDoor
open Go.RowKit
theorem two_pow_lt (i : Nat) (h : i < 64) : 2 ^ i < 18446744073709551616 := by
  have : 2 ^ i < 2 ^ 64 := Nat.pow_lt_pow_right (by decide) h
  simpa using this
theorem wrap_pow (i : Nat) (h : i < 64) : IntKind.u64.wrap (2 ^ i) = ((2 ^ i : Nat) : Int) := by
  have := two_pow_lt i h
  rw [show (2 : Int) ^ i = ((2 ^ i : Nat) : Int) by simp, wrap_nat _ this]
theorem and_one (b i : Nat) (hb : b < 18446744073709551616) : bits .and .u64 ((b : Int) / 2 ^ i) 1 = (((b.testBit i).toNat : Nat) : Int) := by
  have e : (b : Int) / 2 ^ i = ((b / 2 ^ i : Nat) : Int) := by simp
  have hl : b / 2 ^ i < 18446744073709551616 := Nat.lt_of_le_of_lt (Nat.div_le_self _ _) hb
  rw [e, show (1 : Int) = ((1 : Nat) : Int) from rfl, and_u64 _ _ hl (by decide), Nat.and_one_is_mod, Bm.bit_toNat]
theorem has_any (b : Nat) (i : Int) (w : World) (hb : b < 18446744073709551616) :
    Calls Tryz.prog 175 #[.int .u64 (b : Int), .int .i64 i] w fun e w' => e = .returned (.bool (Bm.has b i)) ∧ w = w' := by
  by_cases h : 0 ≤ i ∧ i < 64
  · obtain ⟨h0, h1⟩ := h
    obtain ⟨n, rfl⟩ := Int.eq_ofNat_of_zero_le h0
    have hk := and_one b n hb
    have hv : Bm.has b (n : Int) = ((((b.testBit n).toNat : Nat) : Int) == 1) := by
      simp only [Bm.has, h0, h1, Int.toNat_natCast]
      cases b.testBit n <;> rfl
    have Hv := Lib.hid hv
    clear hv
    go_enter Tryz.func175, Tryz.ntmps175
    go_wp2_with (go_at_call 206; refine (inRange_yes _ _ h0 h1).mono ?_; rintro e w' ⟨rfl, rfl⟩)
    go_ret
    exact ⟨by rw [Hv.out]; rfl, rfl⟩
  · have hv : Bm.has b i = false := by
      unfold Bm.has
      by_cases h0 : 0 ≤ i
      · have : ¬ i < 64 := fun h1 => h ⟨h0, h1⟩
        simp [this]
      · simp [h0]
    have Hv := Lib.hid hv
    clear hv
    go_enter Tryz.func175, Tryz.ntmps175
    go_wp2_with (go_at_call 206; refine (inRange_no _ _ (by omega)).mono ?_; rintro e w' ⟨rfl, rfl⟩)
    go_ret
    exact ⟨by rw [Hv.out]; rfl, rfl⟩
theorem position_any (b : Nat) (i : Int) (w : World) (hb : b < 18446744073709551616) :
    Calls Tryz.prog 176 #[.int .u64 (b : Int), .int .i64 i] w fun e w' => e = .returned (.int .i64 (Bm.position b i : Nat)) ∧ w = w' := by
  by_cases h0 : i ≤ 0
  · have hv : Bm.position b i = 0 := by unfold Bm.position Bm.cut; rw [if_pos h0]; exact Bm.pop_none b
    have Hv := Lib.hid hv
    clear hv
    go_enter Tryz.func176, Tryz.ntmps176
    go_wp2_with fail
    go_ret
    exact ⟨by rw [Hv.out]; rfl, rfl⟩
  · by_cases h1 : 64 ≤ i
    · have hv : Bm.position b i = Bm.pop 64 b := by unfold Bm.position Bm.cut; rw [if_neg h0, if_pos h1]
      have Hv := Lib.hid hv
      clear hv
      go_enter Tryz.func176, Tryz.ntmps176
      go_wp2_with (go_at_call 207; refine (count_any _ hb _).mono ?_; rintro e w' ⟨rfl, rfl⟩)
      go_ret
      exact ⟨by rw [Hv.out]; rfl, rfl⟩
    · obtain ⟨n, rfl⟩ := Int.eq_ofNat_of_zero_le (show 0 ≤ i by omega)
      have hn : n < 64 := by omega
      have hp := two_pow_lt n hn
      have hpos : 0 < 2 ^ n := Nat.two_pow_pos n
      have hv : Bm.position b (n : Int) = Bm.pop 64 (b % 2 ^ n) := by
        unfold Bm.position Bm.cut; rw [if_neg h0, if_neg h1, Bm.pop_mod n b (by omega), Int.toNat_natCast]
      have Hv := Lib.hid hv
      have hk : bits .and .u64 (b : Int) (IntKind.u64.wrap (IntKind.u64.wrap (2 ^ n) - 1)) = ((b % 2 ^ n : Nat) : Int) := by
        rw [wrap_pow n hn, show ((2 ^ n : Nat) : Int) - 1 = ((2 ^ n - 1 : Nat) : Int) by omega, wrap_nat _ (by omega), and_u64 _ _ hb (by omega), Bm.and_low]
      have hl : b % 2 ^ n < 18446744073709551616 := Nat.lt_of_le_of_lt (Nat.mod_le _ _) hb
      clear hv hpos hp
      go_enter Tryz.func176, Tryz.ntmps176
      go_wp2_with (go_at_call 207; refine (count_any _ hl _).mono ?_; rintro e w' ⟨rfl, rfl⟩)
      go_ret
      exact ⟨by rw [Hv.out]; rfl, rfl⟩
end Go.Proofs.YtjlgchdekhmnnaaGreatDoor
end
section
namespace Go.Proofs.YtjlgchdekhmnnaaGreatDoor
open Go.RowKit
set_option linter.unusedVariables false
set_option linter.unusedSimpArgs false
theorem keyValid_any (s : ByteArray) (w : World) (hs : s.size ≤ 9223372036854775807) :
    Calls Tryz.prog 80 #[.string s] w fun e w' => e = .returned (.bool (Ct.keyValid s)) ∧ w = w' := by
  go_enter Tryz.func80, Tryz.ntmps80
  go_wp2_with fail
  go_ret
  exact ⟨by rw [show Ct.keyValid s = decide ((s.size : Int) ≤ 64) by unfold Ct.keyValid; exact decide_eq_decide.2 (by omega)]; rfl, rfl⟩
theorem slice_mid (h n : Nat) (hh : h < 18446744073709551616) (hn : n < 11) : bits .and .u64 ((h : Int) / 2 ^ (6 * n)) 63 = ((h / 64 ^ n % 64 : Nat) : Int) := by
  have e : (h : Int) / 2 ^ (6 * n) = ((h / 64 ^ n : Nat) : Int) := by
    rw [show (64 : Nat) = 2 ^ 6 from rfl, ← Nat.pow_mul]; simp
  have hl : h / 64 ^ n < 18446744073709551616 := Nat.lt_of_le_of_lt (Nat.div_le_self _ _) hh
  rw [e, show (63 : Int) = ((63 : Nat) : Int) from rfl, and_u64 _ _ hl (by decide)]
  congr 1
  exact Nat.and_two_pow_sub_one_eq_mod _ 6
theorem slice_any (h : Nat) (level : Int) (w : World) (hh : h < 18446744073709551616) :
    Calls Tryz.prog 147 #[.int .u64 (h : Int), .int .i64 level] w fun e w' => e = .returned (.int .i64 (Ct.slice h level)) ∧ w = w' := by
  by_cases h0 : level < 0
  · have Hv := Lib.hid (show Ct.slice h level = 0 by unfold Ct.slice; rw [if_pos (.inl h0)])
    go_enter Tryz.func147, Tryz.ntmps147
    go_wp2_with fail
    go_ret
    exact ⟨by rw [Hv.out]; rfl, rfl⟩
  · by_cases h1 : 11 ≤ level
    · have Hv := Lib.hid (show Ct.slice h level = 0 by unfold Ct.slice; rw [if_pos (.inr (by omega))])
      go_enter Tryz.func147, Tryz.ntmps147
      go_wp2_with fail
      go_ret
      exact ⟨by rw [Hv.out]; rfl, rfl⟩
    · obtain ⟨n, rfl⟩ := Int.eq_ofNat_of_zero_le (by omega : 0 ≤ level)
      have hn : n < 11 := by omega
      have Hv := Lib.hid (show Ct.slice h (n : Int) = ((h / 64 ^ n % 64 : Nat) : Int) by unfold Ct.slice; rw [if_neg (by omega)]; simp)
      have Hm := Lib.hid (slice_mid h n hh hn)
      go_enter Tryz.func147, Tryz.ntmps147
      go_wp2_with fail
      go_ret
      refine ⟨?_, rfl⟩
      show Ending.returned (.int .i64 (wrap64 (bits BinOp.and IntKind.u64 ((h : Int) / 2 ^ (6 * n)) 63))) = _
      rw [Hv.out, Hm.out, IntWalk.wrap64_in _ (by omega)]
theorem fnv_snoc (l : List UInt8) (b : UInt8) : Ct.fnv (l ++ [b]) = Ct.fnvStep (Ct.fnv l) b := by
  unfold Ct.fnv; rw [List.foldl_append, List.foldl_cons, List.foldl_nil]
theorem fnvStep_lt (h : Nat) (b : UInt8) : Ct.fnvStep h b < 18446744073709551616 := by
  unfold Ct.fnvStep; exact Nat.mod_lt _ (by omega)
theorem fnv_lt (l : List UInt8) : Ct.fnv l < 18446744073709551616 := by
  rcases List.eq_nil_or_concat l with rfl | ⟨l, b, rfl⟩
  · unfold Ct.fnv; rw [List.foldl_nil]; omega
  · rw [List.concat_eq_append, fnv_snoc]; exact fnvStep_lt _ _
theorem fnv_step (h : Nat) (b : UInt8) (hh : h < 18446744073709551616) : IntKind.u64.wrap (bits .xor .u64 (h : Int) (IntKind.u64.wrap (b.toNat : Int)) * 1099511628211) = (Ct.fnvStep h b : Nat) := by
  unfold Ct.fnvStep
  have hb : b.toNat < 18446744073709551616 := Nat.lt_trans b.toNat_lt (by decide)
  rw [wrap_nat _ hb, bits_xor_u64_nat _ _ hh hb, IntKind.wrap_u64]
  omega
theorem hash_take (s : ByteArray) (k : Nat) (h : k < s.size) : s.data.toList.take (k + 1) = s.data.toList.take k ++ [s[k]] := by
  rw [List.take_succ_eq_append_getElem (by simpa using h)]; rfl
theorem hash_any (s : ByteArray) (m : Nat) (w : World) (hs : s.size ≤ 9223372036854775807) (hm : m < 18446744073709551616) :
    Calls Tryz.prog 103 #[.string s, .int .u64 (m : Int)] w fun e w' => e = .returned (.int .u64 (Ct.hashOf s m : Nat)) ∧ w = w' := by
  go_enter Tryz.func103, Tryz.ntmps103
  go_wp2_with fail
  go_loop [5, 9] (fun h i => ∃ k : Nat, k ≤ s.size ∧ i = .int .i64 (k : Int) ∧ h = .int .u64 (Ct.fnv (s.data.toList.take k) : Nat)) (fun _ i => s.size - (intOf i).toNat)
  case atStart => exact ⟨0, by omega, rfl, rfl⟩
  case round =>
    obtain ⟨k, hk, rfl, rfl⟩ := hrel
    by_cases hlt : k < s.size
    · have HS := Lib.hid (fnv_step (Ct.fnv (s.data.toList.take k)) s[k] (fnv_lt _))
      have HT := Lib.hid (show Ct.fnv (s.data.toList.take (k + 1)) = _ by rw [hash_take s k hlt, fnv_snoc])
      have hl := fnv_lt (s.data.toList.take k)
      generalize Ct.fnv (s.data.toList.take k) = h at *
      go_wp2_with fail
      go_round
      case rel => exact ⟨k + 1, by omega, by go_num, by rw [HT.out, ← HS.out]⟩
      case measure => simp [intOf]; omega
    · have HT := Lib.hid (show Ct.hashOf s m = (Ct.fnv (s.data.toList.take k) &&& m) by unfold Ct.hashOf; rw [List.take_of_length_le (by simp; omega)])
      have HB := Lib.hid (and_u64 _ m (fnv_lt (s.data.toList.take k)) hm)
      generalize Ct.fnv (s.data.toList.take k) = h at *
      go_wp2_with fail
      go_ret
      exact ⟨by rw [HT.out, ← HB.out]; rfl, rfl⟩
theorem hashOf_lt (s : ByteArray) (m : Nat) : Ct.hashOf s m < 18446744073709551616 := Nat.lt_of_le_of_lt Nat.and_le_left (fnv_lt _)
end Go.Proofs.YtjlgchdekhmnnaaGreatDoor
end
