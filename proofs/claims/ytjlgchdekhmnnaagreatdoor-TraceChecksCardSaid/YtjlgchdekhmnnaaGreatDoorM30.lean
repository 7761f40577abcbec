/- Parts of a proof: Mt, Mu, Body. -/
import Derived.Test.YtjlgchdekhmnnaaGreatDoorM29
import Derived.Maps.AppendAt
import Derived.Deep.AppendLies
import Derived.Deep.QuietTactic
section
namespace Go.Proofs.YtjlgchdekhmnnaaGreatDoor
open Go.RowKit
set_option linter.unusedVariables false
def Idle (M : Ct.Mach) (th : Int) : Prop := th < 0 ∨ (M.threads.length : Int) ≤ th ∨ ∃ (i : Nat) (t : Ct.Th), th = (i : Nat) ∧ M.threads[i]? = some t ∧ t.present = none
set_option maxRecDepth 100000 in
set_option maxHeartbeats 800000 in
theorem busy_idle (g : Ghost) (w : World) (m : MFix) (role : Nat → Option Role) (vth vpk vhi : Value) (ov : Nat → Value) (tb : Nat → Nat) (pk : List Int) (M : Ct.Mach) (th : Int) (h : Body (fun _ => False) g w m role vth vpk vhi ov tb pk M) (hi : Idle M th) :
    Calls Tryz.prog 70 #[.pointer (some ⟨m.mb, 0, none⟩), .int .i64 th] w fun e w' => e = .returned (.tuple #[.int .i64 0, .agg zeroAcc, .bool false]) ∧ Below w.heap.size w w' := by
  obtain ⟨p, cap, ev⟩ := h.len
  have c2 := h.cell 2
  simp at c2
  have HA := Lib.hid (heap_alloc_at w (.cells zeroAcc 73))
  have HB := Lib.hid (below_result w zeroAcc zeroAcc 73)
  rcases hi with hi | hi | ⟨i, t, rfl, hi, hc⟩
  · clear c2
    go_enter Tryz.func70, Tryz.ntmps70
    go_wp2_with (refine wpList_store_row rfl 73 (.tmp 5) (.tmp 29) rfl w.heap.size zeroAcc rfl rfl 73 zeroAcc HA.out info_Access_size rfl zeroAcc_one ?_)
    refine bodyPost_ret (v := .tuple #[.int .i64 0, .agg zeroAcc, .bool false]) (results_tmp_row_tmp Tryz.results70 _ _ w.heap.size 73 zeroAcc (0, 0) _ rfl (setRow_heap _ w.heap.size _ _ _ _ HA.out) Tryz.underlying73 rfl info_Access_size) rfl ?_
    exact ⟨rfl, HB.out⟩
  · subst ev
    have q1 : ¬ th < 0 := by omega
    have p2 := cell_alloc c2
    generalize M.threads.length = len at *
    clear c2 h
    go_enter Tryz.func70, Tryz.ntmps70
    go_wp2_with (refine wpList_store_row rfl 73 (.tmp 5) (.tmp 29) rfl w.heap.size zeroAcc rfl rfl 73 zeroAcc HA.out info_Access_size rfl zeroAcc_one ?_)
    refine bodyPost_ret (v := .tuple #[.int .i64 0, .agg zeroAcc, .bool false]) (results_tmp_row_tmp Tryz.results70 _ _ w.heap.size 73 zeroAcc (0, 0) _ rfl (setRow_heap _ w.heap.size _ _ _ _ HA.out) Tryz.underlying73 rfl info_Access_size) rfl ?_
    exact ⟨rfl, HB.out⟩
  · obtain ⟨gt, cap, rfl, hr, hcell, hfree⟩ := h.thread i t hi
    have hlt := (List.getElem?_eq_some_iff.1 hi).1
    have t2 := hcell 2 (by decide)
    rw [show (thC (ov i) (tb i) t)[2]? = some (.pointer none) by simp [thC, hc]] at t2
    have q1 : ¬ ((i : Int) < 0) := by omega
    have q3 : i < M.threads.length := hlt
    have q4 : decide (M.threads.length ≤ i) = false := by simp; omega
    generalize M.threads.length = len at *
    have p2 := cell_alloc c2; have r2 := cell_alloc t2
    clear c2 t2 h hcell hfree hlt hi hc hr ev
    go_enter Tryz.func70, Tryz.ntmps70
    go_wp2_with (refine wpList_store_row rfl 73 (.tmp 5) (.tmp 29) rfl w.heap.size zeroAcc rfl rfl 73 zeroAcc HA.out info_Access_size rfl zeroAcc_one ?_)
    refine bodyPost_ret (v := .tuple #[.int .i64 0, .agg zeroAcc, .bool false]) (results_tmp_row_tmp Tryz.results70 _ _ w.heap.size 73 zeroAcc (0, 0) _ rfl (setRow_heap _ w.heap.size _ _ _ _ HA.out) Tryz.underlying73 rfl info_Access_size) rfl ?_
    exact ⟨rfl, HB.out⟩
theorem results_tmp2 {P : Program} {fn : Func} {x y : Tmp} (h : fn.results = #[.tmp x, .tmp y]) (tmps : Array Value) (w : World) : (results fn tmps).run P w = .ok (.tuple #[tmps.getD x undef, tmps.getD y undef]) w := by simp [results, h]
theorem results_tmp3 {P : Program} {fn : Func} {x y z : Tmp} (h : fn.results = #[.tmp x, .tmp y, .tmp z]) (tmps : Array Value) (w : World) : (results fn tmps).run P w = .ok (.tuple #[tmps.getD x undef, tmps.getD y undef, tmps.getD z undef]) w := by simp [results, h]
end Go.Proofs.YtjlgchdekhmnnaaGreatDoor
end
section
namespace Go.Proofs.YtjlgchdekhmnnaaGreatDoor
open Go.RowKit
set_option linter.unusedVariables false
def zeroOp : Array Value := #[.int .i64 0, .int .i64 0, .string ⟨#[]⟩, .int .u64 0, .int .u64 0]
def zeroEvent : Array Value := #[.int .i64 0, .int .i64 0, .bool false, .int .i64 0, .bool false, .int .u64 0, .string ⟨#[]⟩, .int .i64 0, .int .i64 0, .int .i64 0, .bool false]
theorem info_Op : (Tryz.prog.info? 35).map (fun i => (i.zero, i.size, i.bytes)) = some (some (.agg zeroOp), 5, 48) := by kernel_rfl
theorem info_Event : (Tryz.prog.info? 132).map (fun i => (i.zero, i.size, i.bytes)) = some (some (.agg zeroEvent), 11, 96) := by kernel_rfl
def Cloned (E : TypeId) (size : Nat) (n : Nat) (xs : List Value) (w : World) (e : Ending) (w' : World) : Prop :=
  ∃ v, e = .returned v ∧ w'.ownsRow w.heap.size E size v n xs ∧ Below w.heap.size w w'
theorem own_empty (w : World) (base : Nat) (hb : base ≤ w.heap.size) (E : TypeId) (size : Nat) : (w.alloc (.cells #[] E)).ownsRow base E size (.slice (some ⟨w.heap.size, 0, none⟩) 0 0) 0 [] :=
  ⟨by simp, .inr ⟨w.heap.size, 0, #[], rfl, hb, heap_alloc_at w _, Nat.le_refl _, by unfold maxLen; omega, by simp, by simp⟩⟩
set_option maxRecDepth 100000 in
set_option maxHeartbeats 800000 in
theorem cloneOps_any (N : Nat → Prop) (w : World) (v : Value) (os : List Ct.Op) (h : OpsAt N w v os) (hl : os.length ≤ 1000000) :
    Calls Tryz.prog 57 #[v] w (Cloned 35 5 os.length (os.map opC).flatten w) := by
  obtain ⟨i0, hi, hz0, hz1, hz2⟩ := info_parts info_Op
  rcases h with ⟨rfl, h0, hx⟩ | ⟨b, off, cap, rfl, hb, hlt, hc, hm, hcell⟩
  · have hnn : ∀ (W : World), (binOp BinOp.eql 119 (.slice none 0 0) (.slice none 0 0)).run Tryz.prog W = .ok (.bool true) W := fun _ => by kernel_rfl
    go_enter Tryz.func57, Tryz.ntmps57
    go_wp2_with fail
    go_ret
    refine ⟨_, rfl, ?_, Below.refl _ _⟩
    rw [hx, h0]; exact World.ownsRow_nil _ _ _ _
  · have hnl : ∀ (a : Addr) (n c : Nat) (W : World), (binOp BinOp.eql 119 (.slice (some a) n c) (.slice none 0 0)).run Tryz.prog W = .ok (.bool false) W := fun _ _ _ _ => by kernel_rfl
    have HO := Lib.hid (own_empty w w.heap.size (Nat.le_refl _) 35 5)
    have HL : Hid ((os.map opC).flatten.length = os.length * 5) := ops_len os
    have HC : Hid (∀ j u, (os.map opC).flatten[j]? = some u → (w.alloc (.cells #[] 35)).cell? ((⟨b, off, none⟩ : Addr).add j) = some u) := fun j u hj => by
      have e : (⟨b, off, none⟩ : Addr).add j = ⟨b, off + j, none⟩ := by unfold Addr.add; split <;> simp_all
      rw [e]; exact cell_alloc (hcell j u hj) _
    have H1 := Lib.hid (ops_one os)
    generalize (os.map opC).flatten = xs at *
    generalize os.length = n at *
    clear hcell
    go_enter Tryz.func57, Tryz.ntmps57
    go_wp2_with (at_builtin; refine wpList_append_own_at _ rfl _ _ 119 rfl w.heap.size 35 i0 (.agg zeroOp) 5 48 Tryz.underlying119 hi hz0 hz1 hz2 rfl (by decide) _ 0 [] rfl HO.out ⟨b, off, none⟩ n cap xs rfl HL.out HC.out H1.out (by unfold maxLen; omega) (by omega) (by simp) ?_; intro v' w1 hown hgrow _ hblk)
    go_ret
    refine ⟨_, rfl, by simpa using hown, ?_⟩
    exact Below.keep ((Below.refl _ _).alloc (Nat.le_refl _) _) (Nat.le_refl _) ((grown_keep hgrow).mono (fun k _ e => by injection e with e; exact Nat.le_of_eq e))
end Go.Proofs.YtjlgchdekhmnnaaGreatDoor
end
section
namespace Go.Proofs.YtjlgchdekhmnnaaGreatDoor
open Go.RowKit
set_option linter.unusedVariables false
structure MachX (X : Nat → Prop) (g : Ghost) (w : World) (m : MFix) (role : Nat → Option Role) (vth vpk vhi : Value) (ov : Nat → Value) (tb : Nat → Nat) (pk : List Int) (M : Ct.Mach) : Prop where
  arena : ArenaAt g w M.st
  tab : TabAt g w m.hb m.m1 m.m2 m.m3 m.mask M.tab
  body : Body X g w m role vth vpk vhi ov tb pk M
  msk : M.mask = m.mask
def Ghost.withN (g : Ghost) (N : Nat → Prop) : Ghost := { g with N := N }
@[simp] theorem Ghost.withN_a (g : Ghost) (N : Nat → Prop) : (g.withN N).a = g.a := rfl
structure Rest (ρ : Role) (X : Nat → Prop) (g' : Ghost) (w' : World) (m : MFix) (role : Nat → Option Role) (vth vpk vhi : Value) (ov : Nat → Value) (tb : Nat → Nat) (pk : List Int) (M : Ct.Mach) : Prop where
  arena : ArenaAt g' w' M.st
  tab : TabAt g' w' m.hb m.m1 m.m2 m.m3 m.mask M.tab
  blk : ρ ≠ .mach → w'.heap[m.mb]? = some (.cells #[.pointer (some ⟨g'.a, 0, none⟩), .pointer (some ⟨m.hb, 0, none⟩), vth, vpk, vhi, .int .i64 (M.count : Nat)] 125 (0, 0))
  ths : ρ ≠ .threads → w'.ownsRow 0 128 3 vth M.threads.length (thRows ov tb M.threads).flatten
  hist : ρ ≠ .hist → w'.ownsRow 0 132 11 vhi M.history.length (M.history.map evC).flatten
  picks : ρ ≠ .picks → w'.ownsRow 0 129 1 vpk pk.length (pk.map (Value.int .i8))
  ops : ∀ i t, M.threads[i]? = some t → OpsAt g'.N w' (ov i) t.ops
  task : ∀ i t c, ¬ X i → ρ ≠ .task i → M.threads[i]? = some t → t.present = some c → (∃ n O, TaskAt O g' w' (tb i) c n ∧ n ≤ M.count ∧ ∀ k, O k → role k = some (.task i)) ∧ role (tb i) = some (.task i)
  rN : ∀ k r, role k = some r → g'.N k ∧ ¬ g'.Foot k ∧ k < w'.heap.size
theorem MachX.rest {X F N' : Nat → Prop} {g : Ghost} {w w' : World} {m : MFix} {role : Nat → Option Role} {vth vpk vhi : Value} {ov : Nat → Value} {tb : Nat → Nat} {pk : List Int} {M : Ct.Mach} (ρ : Role)
    (h : MachX X g w m role vth vpk vhi ov tb pk M) (hk : Keep F w w') (hF : ∀ k, F k → role k = some ρ ∨ w.heap.size ≤ k) (hρ : ρ ≠ .table ∧ ρ ≠ .ops ∧ ρ ≠ .tries ∧ ρ ≠ .iters)
    (hN : ∀ k, N' k → g.N k ∨ w.heap.size ≤ k) (hO : ∀ k, g.N k → N' k) (hL : ∀ k, N' k → k < w'.heap.size) : Rest ρ X (g.withN N') w' m role vth vpk vhi ov tb pk M := by
  have hb := h.body
  have hFN : ∀ k, F k → g.N k ∨ w.heap.size ≤ k := fun k hf => (hF k hf).imp (fun hr => (hb.rN k _ hr).1) id
  have ne : ∀ k r, role k = some r → r ≠ ρ → ¬ F k := fun k r hr n1 hf => by
    rcases hF k hf with h1 | h1
    · rw [hr] at h1; injection h1 with h1; exact n1 h1
    · have := (hb.rN k r hr).2.2; omega
  have hFt : ∀ k, F k → ¬ g.Foot k := fun k hf hg => by
    rcases hF k hf with h1 | h1
    · exact (hb.rN k _ h1).2.1 hg
    · have := h.arena.nlt k (h.arena.foot k hg); omega
  refine ⟨h.arena.keep hk hFt hFN hN hO hL, h.tab.keep hk ⟨ne _ _ hb.rhb (Ne.symm hρ.1), ne _ _ hb.rm1 (Ne.symm hρ.2.1), ne _ _ hb.rm2 (Ne.symm hρ.2.2.1), ne _ _ hb.rm3 (Ne.symm hρ.2.2.2)⟩ rfl hO (fun _ h => .inl h), fun n1 => ?_, fun n1 => ?_, fun n1 => ?_, fun n1 => ?_, fun i t ht => (hb.ops i t ht).keep hk hFN hN, fun i t c hx n1 ht hc => ?_, fun k r hr => ?_⟩
  · rw [hk.block _ (hb.rN _ _ hb.rmb).2.2 (ne _ _ hb.rmb (Ne.symm n1))]; exact hb.blk
  · exact ownsRow_keep hb.ths hk (fun k hv => ne k _ (hb.rth k hv) (Ne.symm n1))
  · exact ownsRow_keep hb.hist hk (fun k hv => ne k _ (hb.rhi k hv) (Ne.symm n1))
  · exact ownsRow_keep hb.picks hk (fun k hv => ne k _ (hb.rpk k hv) (Ne.symm n1))
  · obtain ⟨⟨n, O, h1, h2, h4⟩, h3⟩ := hb.task i t c hx ht hc
    exact ⟨⟨n, O, h1.mv hk (ne _ _ h3 (Ne.symm n1)) hFN (fun k hf => .inl (fun ho => ne _ _ (h4 k ho) (Ne.symm n1) hf)) rfl hN hO (fun _ h => .inl h), h2, h4⟩, h3⟩
  · have := hb.rN k r hr
    exact ⟨hO k this.1, this.2.1, Nat.lt_of_lt_of_le this.2.2 hk.size⟩
theorem withN_self (g : Ghost) : g.withN g.N = g := rfl
theorem MachX.count {X : Nat → Prop} {g : Ghost} {w : World} {m : MFix} {role : Nat → Option Role} {vth vpk vhi : Value} {ov : Nat → Value} {tb : Nat → Nat} {pk : List Int} {M : Ct.Mach} (h : MachX X g w m role vth vpk vhi ov tb pk M) (c : Nat) (hc' : M.count ≤ c) :
    MachX X g (w.setCell ⟨m.mb, 5, none⟩ (.int .i64 (c : Nat))) m role vth vpk vhi ov tb pk { M with count := c } := by
  have hb := h.body
  have R := h.rest (N' := g.N) .mach (Keep.setCell (F := fun k => role k = some .mach) w ⟨m.mb, 5, none⟩ (.int .i64 (c : Nat)) hb.rmb) (fun k hk => .inl hk) (by simp) (fun _ h => .inl h) (fun _ h => h) (fun k hk => Nat.lt_of_lt_of_le (h.arena.nlt k hk) (Keep.setCell (F := fun k => role k = some .mach) w ⟨m.mb, 5, none⟩ (.int .i64 (c : Nat)) hb.rmb).size)
  rw [withN_self] at R
  refine ⟨R.arena, R.tab, ⟨?_, R.ths (by simp), R.hist (by simp), R.picks (by simp), R.ops, fun i t c' hx ht hc => (R.task i t c' hx (by simp) ht hc).imp (fun ⟨n, O, h1, h2, h4⟩ => ⟨n, O, h1, Nat.le_trans h2 hc', h4⟩) id, hb.rmb, hb.rhb, hb.rm1, hb.rm2, hb.rm3, hb.rth, hb.rhi, hb.rpk, R.rN⟩, h.msk⟩
  rw [heap_setCell_at w m.mb 5 _ _ _ _ hb.blk]; rfl
theorem MachX.event {X : Nat → Prop} {g : Ghost} {w w1 : World} {m : MFix} {role : Nat → Option Role} {vth vpk vhi : Value} {ov : Nat → Value} {tb : Nat → Nat} {pk : List Int} {M : Ct.Mach} (h : MachX X g w m role vth vpk vhi ov tb pk M) (e : Ct.Event) (gb cap : Nat)
    (hk : Keep (fun k => vhi.ownBlock = some k ∨ w.heap.size ≤ k) w w1) (hown : w1.ownsRow 0 132 11 (.slice (some ⟨gb, 0, none⟩) (M.history.length + 1) cap) (M.history.length + 1) ((M.history.map evC).flatten ++ evC e)) (hgb : vhi.ownBlock = some gb ∨ w.heap.size ≤ gb) :
    MachX X (g.withN fun k => g.N k ∨ k = gb) (w1.setCell ⟨m.mb, 4, none⟩ (.slice (some ⟨gb, 0, none⟩) (M.history.length + 1) cap)) m (fun k => if k = gb then some .hist else role k) vth vpk (.slice (some ⟨gb, 0, none⟩) (M.history.length + 1) cap) ov tb pk { M with history := M.history ++ [e] } := by
  have hb := h.body
  have hgl : gb < w1.heap.size := (hown.lt gb rfl).2
  have hgr : role gb = some .hist ∨ w.heap.size ≤ gb := hgb.imp (hb.rhi gb) id
  have R := h.rest (N' := fun k => g.N k ∨ k = gb) .hist hk (fun k hk => hk.imp (hb.rhi k) id) (by simp) (fun k hk => hk.elim .inl (fun e => hgr.imp (fun h1 => e ▸ (hb.rN gb _ h1).1) (fun h1 => e ▸ h1))) (fun _ h => .inl h) (fun k hk => hk.elim (fun h1 => Nat.lt_of_lt_of_le (h.arena.nlt k h1) (Keep.size ‹_›)) (fun e => e ▸ hgl))
  have nr : ∀ k r, role k = some r → r ≠ .hist → k ≠ gb := fun k r hr n1 e => by
    subst e
    rcases hgr with h1 | h1
    · rw [hr] at h1; injection h1 with h1; exact n1 h1
    · have := (hb.rN k r hr).2.2; omega
  have hmb : m.mb ≠ gb := nr _ _ hb.rmb (by simp)
  obtain ⟨g', hg'⟩ : ∃ g', g' = g.withN fun k => g.N k ∨ k = gb := ⟨_, rfl⟩
  rw [← hg'] at R ⊢
  have hga : g'.a = g.a := by rw [hg']; rfl
  have hgN : ∀ k, g'.N k ↔ g.N k ∨ k = gb := fun k => by rw [hg']; rfl
  have hgF : ∀ k, g'.Foot k ↔ g.Foot k := fun k => by rw [hg']; rfl
  have k2 : Keep (fun k => k = m.mb) w1 (w1.setCell ⟨m.mb, 4, none⟩ (.slice (some ⟨gb, 0, none⟩) (M.history.length + 1) cap)) := Keep.setCell w1 ⟨m.mb, 4, none⟩ _ rfl
  have hmN := R.rN _ _ hb.rmb
  have ne2 : ∀ k r, role k = some r → r ≠ .mach → ¬ k = m.mb := fun k r hr n1 e => by subst e; rw [hb.rmb] at hr; injection hr with hr; exact n1 hr.symm
  refine ⟨R.arena.own k2 hmN.1 hmN.2.1, R.tab.keep k2 ⟨ne2 _ _ hb.rhb (by simp), ne2 _ _ hb.rm1 (by simp), ne2 _ _ hb.rm2 (by simp), ne2 _ _ hb.rm3 (by simp)⟩ rfl (fun _ h => h) (fun _ h => .inl h), ⟨?_, ?_, ?_, ?_, fun i t ht => (R.ops i t ht).keep k2 (fun k hk => .inl (hk ▸ hmN.1)) (fun _ h => .inl h), fun i t c hx ht hc => ?_, ?_, ?_, ?_, ?_, ?_, fun k hv => ?_, fun k hv => ?_, fun k hv => ?_, fun k r hr => ?_⟩, h.msk⟩
  · rw [heap_setCell_at w1 m.mb 4 _ _ _ _ (R.blk (by simp))]; rfl
  · exact ownsRow_keep (R.ths (by simp)) k2 (fun k hv => ne2 k _ (hb.rth k hv) (by simp))
  · have h3 := ownsRow_keep hown k2 (fun k hv e => hmb (by injection hv with hv; exact (hv.trans e).symm))
    simpa using h3
  · exact ownsRow_keep (R.picks (by simp)) k2 (fun k hv => ne2 k _ (hb.rpk k hv) (by simp))
  · obtain ⟨⟨n, O, h1, h2, h4⟩, h3⟩ := R.task i t c hx (by simp) ht hc
    exact ⟨⟨n, O, h1.mv k2 (ne2 _ _ h3 (by simp)) (fun k hk => .inl (hk ▸ hmN.1)) (fun k hk => .inl (fun ho => ne2 _ _ (h4 k ho) (by simp) hk)) rfl (fun _ h => .inl h) (fun _ h => h) (fun _ h => .inl h), h2, fun k ho => by rw [if_neg (nr _ _ (h4 k ho) (by simp))]; exact h4 k ho⟩, by rw [if_neg (nr _ _ h3 (by simp))]; exact h3⟩
  · rw [if_neg hmb]; exact hb.rmb
  · rw [if_neg (nr _ _ hb.rhb (by simp))]; exact hb.rhb
  · rw [if_neg (nr _ _ hb.rm1 (by simp))]; exact hb.rm1
  · rw [if_neg (nr _ _ hb.rm2 (by simp))]; exact hb.rm2
  · rw [if_neg (nr _ _ hb.rm3 (by simp))]; exact hb.rm3
  · rw [if_neg (nr _ _ (hb.rth k hv) (by simp))]; exact hb.rth k hv
  · injection hv with hv; rw [if_pos hv.symm]
  · rw [if_neg (nr _ _ (hb.rpk k hv) (by simp))]; exact hb.rpk k hv
  · by_cases e : k = gb
    · subst e
      refine ⟨(hgN k).2 (.inr rfl), fun hf => ?_, Nat.lt_of_lt_of_le hgl k2.size⟩
      rcases hgr with h1 | h1
      · exact (hb.rN k _ h1).2.1 ((hgF k).1 hf)
      · have := h.arena.nlt k (h.arena.foot k ((hgF k).1 hf)); omega
    · rw [if_neg e] at hr
      have := R.rN k r hr
      exact ⟨this.1, this.2.1, Nat.lt_of_lt_of_le this.2.2 k2.size⟩
theorem MachX.row {X : Nat → Prop} {g : Ghost} {w : World} {m : MFix} {role : Nat → Option Role} {vth vpk vhi : Value} {ov : Nat → Value} {tb tb' : Nat → Nat} {pk : List Int} {M : Ct.Mach} (h : MachX X g w m role vth vpk vhi ov tb pk M) (i j gt cap : Nat) (t t' : Ct.Th) (v : Value) (hi : M.threads[i]? = some t)
    (hv : vth = .slice (some ⟨gt, 0, none⟩) M.threads.length cap) (hj : j < 3) (htb : ∀ k, k ≠ i → tb' k = tb k) (hrow : (thC (ov i) (tb i) t).set j v = thC (ov i) (tb' i) t') (hops : t'.ops = t.ops)
    (hX : X i ∨ t'.present = none ∨ (tb' i = tb i ∧ t'.present = t.present)) :
    MachX X g (w.setCell ⟨gt, i * 3 + j, none⟩ v) m role vth vpk vhi ov tb' pk { M with threads := M.threads.set i t' } := by
  have hb := h.body
  have hlt := (List.getElem?_eq_some_iff.1 hi).1
  have hgt : role gt = some .threads := hb.rth gt (by rw [hv]; rfl)
  have R := h.rest (N' := g.N) .threads (Keep.setCell (F := fun k => role k = some .threads) w ⟨gt, i * 3 + j, none⟩ v hgt) (fun k hk => .inl hk) (by simp) (fun _ h => .inl h) (fun _ h => h) (fun k hk => Nat.lt_of_lt_of_le (h.arena.nlt k hk) (Keep.setCell (F := fun k => role k = some .threads) w ⟨gt, i * 3 + j, none⟩ v hgt).size)
  rw [withN_self] at R
  have hset : ∀ k, (M.threads.set i t')[k]? = if i = k then some t' else M.threads[k]? := fun k => by rw [List.getElem?_set]; split <;> simp
  refine ⟨R.arena, R.tab, ⟨R.blk (by simp), ?_, R.hist (by simp), R.picks (by simp), fun k u hu => ?_, fun k u c hx hu hc => ?_, hb.rmb, hb.rhb, hb.rm1, hb.rm2, hb.rm3, hb.rth, hb.rhi, hb.rpk, R.rN⟩, h.msk⟩
  · have h0 := hb.ths
    subst hv
    have h1 := (h0.stored (i * 3 + j) v).1
    rw [Nat.mul_comm i 3, flat_set 3 _ i j v (thRows_three ov tb _) hj (thC (ov i) (tb i) t) (by rw [thRows_get, hi]; rfl), hrow] at h1
    have e : (thRows ov tb M.threads).set i (thC (ov i) (tb' i) t') = thRows ov tb' (M.threads.set i t') := by
      apply List.ext_getElem?
      intro k
      rw [List.getElem?_set, thRows_get, thRows_get, hset k, thRows_len]
      by_cases hk : i = k
      · subst hk; simp [hlt]
      · simp only [hk, if_false]; rw [htb k (fun e => hk e.symm)]
    rw [e] at h1
    show World.ownsRow _ 0 _ 3 _ (M.threads.set i t').length _
    rw [List.length_set, Nat.mul_comm i 3]; exact h1
  · show OpsAt g.N _ (ov k) u.ops
    rw [hset k] at hu
    by_cases hk : i = k
    · subst hk
      rw [if_pos rfl] at hu; injection hu with hu
      subst hu
      rw [hops]; exact R.ops i t hi
    · rw [if_neg hk] at hu; exact R.ops k u hu
  · rw [hset k] at hu
    by_cases hk : i = k
    · subst hk
      rw [if_pos rfl] at hu; injection hu with hu
      subst hu
      rcases hX with h1 | h1 | ⟨h1, h2⟩
      · exact absurd h1 hx
      · rw [h1] at hc; cases hc
      · rw [h1]; exact R.task i t c hx (by simp) hi (by rw [← h2]; exact hc)
    · rw [if_neg hk] at hu
      rw [htb k (fun e => hk e.symm)]
      exact R.task k u c hx (by simp) hu hc
theorem MachX.call {X F : Nat → Prop} {g g' : Ghost} {w w' : World} {m : MFix} {role : Nat → Option Role} {vth vpk vhi : Value} {ov : Nat → Value} {tb : Nat → Nat} {pk : List Int} {M : Ct.Mach} {s' : Ct.St} {T' : Ct.Tab}
    (h : MachX X g w m role vth vpk vhi ov tb pk M) (hk : Keep F w w') (hF : ∀ k, F k → Other X g role k ∨ w.heap.size ≤ k) (ea : g'.a = g.a) (new : ∀ k, g'.N k → g.N k ∨ w.heap.size ≤ k) (old : ∀ k, g.N k → g'.N k) (foot : ∀ k, g'.Foot k → g.Foot k ∨ w.heap.size ≤ k)
    (ha : ArenaAt g' w' s') (ht : TabAt g' w' m.hb m.m1 m.m2 m.m3 m.mask T') : MachX X g' w' m role vth vpk vhi ov tb pk { M with st := s', tab := T' } :=
  ⟨ha, ht, h.body.keep (fun k _ hf => h.arena.foot k hf) hk hF ea new old foot, h.msk⟩
theorem MachX.less {X Y : Nat → Prop} {g : Ghost} {w : World} {m : MFix} {role : Nat → Option Role} {vth vpk vhi : Value} {ov : Nat → Value} {tb : Nat → Nat} {pk : List Int} {M : Ct.Mach} (h : MachX X g w m role vth vpk vhi ov tb pk M) (hXY : ∀ i, X i → Y i) : MachX Y g w m role vth vpk vhi ov tb pk M :=
  ⟨h.arena, h.tab, ⟨h.body.blk, h.body.ths, h.body.hist, h.body.picks, h.body.ops, fun i t c hx ht hc => h.body.task i t c (fun hi => hx (hXY i hi)) ht hc, h.body.rmb, h.body.rhb, h.body.rm1, h.body.rm2, h.body.rm3, h.body.rth, h.body.rhi, h.body.rpk, h.body.rN⟩, h.msk⟩
open Classical in
noncomputable def roleT (role : Nat → Option Role) (i : Nat) (b : Nat) (O : Nat → Prop) (k : Nat) : Option Role := if k = b ∨ O k then some (.task i) else role k
theorem roleT_in {role : Nat → Option Role} {i b : Nat} {O : Nat → Prop} {k : Nat} (h : k = b ∨ O k) : roleT role i b O k = some (.task i) := by unfold roleT; rw [if_pos h]
theorem roleT_out {role : Nat → Option Role} {i b : Nat} {O : Nat → Prop} {k : Nat} (h : ¬ (k = b ∨ O k)) : roleT role i b O k = role k := by unfold roleT; rw [if_neg h]
theorem MachX.task {g : Ghost} {w : World} {m : MFix} {role : Nat → Option Role} {vth vpk vhi : Value} {ov : Nat → Value} {tb : Nat → Nat} {pk : List Int} {M : Ct.Mach} (i : Nat) (t : Ct.Th) (c : Ct.Code) (O : Nat → Prop) (h : MachX (fun k => k = i) g w m role vth vpk vhi ov tb pk M) (hi : M.threads[i]? = some t) (hc : t.present = some c)
    (hT : ∃ n, TaskAt O g w (tb i) c n ∧ n ≤ M.count) (hr : role (tb i) = some (.task i) ∨ role (tb i) = none) (hO : ∀ k, O k → (role k = some (.task i) ∨ role k = none) ∧ k < w.heap.size) :
    MachX (fun _ => False) g w m (roleT role i (tb i) O) vth vpk vhi ov tb pk M := by
  have hb := h.body
  obtain ⟨n, h1, h2⟩ := hT
  have hro : ∀ k, (k = tb i ∨ O k) → role k = some (.task i) ∨ role k = none := fun k hk => hk.elim (fun e => e ▸ hr) (fun ho => (hO k ho).1)
  have nr : ∀ k r, role k = some r → r ≠ .task i → roleT role i (tb i) O k = some r := fun k r hk n1 => by
    rw [roleT_out]; exact hk
    intro hx
    rcases hro k hx with h3 | h3
    · rw [h3] at hk; injection hk with hk; exact n1 hk.symm
    · rw [h3] at hk; cases hk
  refine ⟨h.arena, h.tab, ⟨hb.blk, hb.ths, hb.hist, hb.picks, hb.ops, fun k u c' _ hu hc' => ?_, nr _ _ hb.rmb (by simp), nr _ _ hb.rhb (by simp), nr _ _ hb.rm1 (by simp), nr _ _ hb.rm2 (by simp), nr _ _ hb.rm3 (by simp), fun k hv => nr _ _ (hb.rth k hv) (by simp), fun k hv => nr _ _ (hb.rhi k hv) (by simp), fun k hv => nr _ _ (hb.rpk k hv) (by simp), fun k r hr' => ?_⟩, h.msk⟩
  · by_cases hk : k = i
    · subst hk
      rw [hi] at hu; injection hu with hu; subst hu
      rw [hc] at hc'; injection hc' with hc'; subst hc'
      exact ⟨⟨n, O, h1, h2, fun j hj => roleT_in (.inr hj)⟩, roleT_in (.inl rfl)⟩
    · obtain ⟨⟨n', O', q1, q2, q4⟩, q3⟩ := hb.task k u c' hk hu hc'
      exact ⟨⟨n', O', q1, q2, fun j hj => nr _ _ (q4 j hj) (fun e => hk (by injection e))⟩, nr _ _ q3 (fun e => hk (by injection e))⟩
  · by_cases e : k = tb i ∨ O k
    · rcases e with e | e
      · subst e
        exact ⟨h1.inN, h1.out, by obtain ⟨⟨cs, hT', _⟩, _⟩ := h1; exact hT'.lt⟩
      · exact ⟨(h1.own k e).1, (h1.own k e).2, (hO k e).2⟩
    · rw [roleT_out e] at hr'; exact hb.rN k r hr'
theorem MachX.begun {X : Nat → Prop} {g g' : Ghost} {w w' : World} {m : MFix} {role : Nat → Option Role} {vth vpk vhi : Value} {ov : Nat → Value} {tb : Nat → Nat} {pk : List Int} {M : Ct.Mach} {s' : Ct.St} {T' : Ct.Tab}
    (h : MachX X g w m role vth vpk vhi ov tb pk M) (hs : StepF (fun k => k = m.m1) g w g' w') (ha : ArenaAt g' w' s') (ht : TabAt g' w' m.hb m.m1 m.m2 m.m3 m.mask T') : MachX X g' w' m role vth vpk vhi ov tb pk { M with st := s', tab := T' } :=
  h.call hs.keep (fun k hk => .inl (hk.elim .inl (fun e => .inr (.inl (e ▸ h.body.rm1))))) hs.a hs.new hs.old hs.foot ha ht
theorem MachX.stepped {g g' : Ghost} {w w' : World} {m : MFix} {role : Nat → Option Role} {vth vpk vhi : Value} {ov : Nat → Value} {tb : Nat → Nat} {pk : List Int} {M : Ct.Mach} {s' : Ct.St} (i : Nat)
    (h : MachX (fun k => k = i) g w m role vth vpk vhi ov tb pk M) {O : Nat → Prop} (hs : StepT O (tb i) g w g' w') (hr : role (tb i) = some (.task i)) (hO : ∀ k, O k → role k = some (.task i)) (ha : ArenaAt g' w' s') : MachX (fun k => k = i) g' w' m role vth vpk vhi ov tb pk { M with st := s' } := by
  have ne : ∀ k r, role k = some r → (∀ j, r ≠ .task j) → k ≠ tb i := fun k r hk n1 e => by subst e; rw [hr] at hk; injection hk with hk; exact n1 i hk.symm
  have no : ∀ k r, role k = some r → (∀ j, r ≠ .task j) → ¬ O k := fun k r hk n1 ho => by rw [hO k ho] at hk; injection hk with hk; exact n1 i hk.symm
  exact h.call hs.keep (fun k hk => .inl (hk.elim .inl (fun e => .inr (.inr (.inr (.inr ⟨i, rfl, e.elim (fun e => e ▸ hr) (hO k)⟩)))))) hs.a hs.new hs.old hs.foot ha (h.tab.stepT hs ⟨ne _ _ h.body.rhb (by simp), ne _ _ h.body.rm1 (by simp), ne _ _ h.body.rm2 (by simp), ne _ _ h.body.rm3 (by simp)⟩ ⟨no _ _ h.body.rhb (by simp), no _ _ h.body.rm1 (by simp), no _ _ h.body.rm2 (by simp), no _ _ h.body.rm3 (by simp)⟩)
theorem MachX.finished {X : Nat → Prop} {g : Ghost} {w w' : World} {m : MFix} {role : Nat → Option Role} {vth vpk vhi : Value} {ov : Nat → Value} {tb : Nat → Nat} {pk : List Int} {M : Ct.Mach} {T' : Ct.Tab}
    (h : MachX X g w m role vth vpk vhi ov tb pk M) (hk : Keep (fun k => k = m.m1 ∨ k = m.m2) w w') (ha : ArenaAt g w' M.st) (ht : TabAt g w' m.hb m.m1 m.m2 m.m3 m.mask T') : MachX X g w' m role vth vpk vhi ov tb pk { M with tab := T' } :=
  h.call (s' := M.st) hk (fun k hk => .inl (hk.elim (fun e => .inr (.inl (e ▸ h.body.rm1))) (fun e => .inr (.inr (.inl (e ▸ h.body.rm2)))))) rfl (fun _ h => .inl h) (fun _ h => h) (fun _ h => .inl h) ha ht
theorem MachX.below {X : Nat → Prop} {g : Ghost} {w w' : World} {m : MFix} {role : Nat → Option Role} {vth vpk vhi : Value} {ov : Nat → Value} {tb : Nat → Nat} {pk : List Int} {M : Ct.Mach} (h : MachX X g w m role vth vpk vhi ov tb pk M) (hb : Below w.heap.size w w') : MachX X g w' m role vth vpk vhi ov tb pk M := ⟨h.arena.below hb, h.tab.below hb, h.body.below hb, h.msk⟩
theorem Below.drew0 (w : World) : Below w.heap.size w w.drew := ⟨rfl, rfl, rfl, Nat.le_refl _, fun _ _ => rfl⟩
theorem MachX.norole {X : Nat → Prop} {g : Ghost} {w : World} {m : MFix} {role : Nat → Option Role} {vth vpk vhi : Value} {ov : Nat → Value} {tb : Nat → Nat} {pk : List Int} {M : Ct.Mach} (h : MachX X g w m role vth vpk vhi ov tb pk M) (k : Nat) (hk : w.heap.size ≤ k) : role k = none := by
  cases e : role k with
  | none => rfl
  | some r => have := (h.body.rN k r e).2.2; omega
theorem MachX.plus {X : Nat → Prop} {g : Ghost} {w w' : World} {m : MFix} {role : Nat → Option Role} {vth vpk vhi : Value} {ov : Nat → Value} {tb : Nat → Nat} {pk : List Int} {M : Ct.Mach} (h : MachX X g w m role vth vpk vhi ov tb pk M) (hb : Below w.heap.size w w') (a : Nat) (ha : w.heap.size ≤ a) (hl : a < w'.heap.size) : MachX X (g.withN fun k => g.N k ∨ k = a) w' m role vth vpk vhi ov tb pk M := by
  have new : ∀ k, g.N k ∨ k = a → g.N k ∨ w.heap.size ≤ k := fun k hk => hk.imp id (fun e => by omega)
  refine h.call (s' := M.st) (T' := M.tab) (Keep.below hb (fun _ => False)) (fun _ h => h.elim) rfl new (fun _ h => .inl h) (fun _ h => .inl h) ?_ ?_
  · exact h.arena.keep (Keep.below hb (fun _ => False)) (fun _ h => h.elim) (fun _ h => h.elim) new (fun _ h => .inl h) (fun k hk => hk.elim (fun h1 => Nat.lt_of_lt_of_le (h.arena.nlt k h1) hb.size) (fun e => by omega))
  · exact h.tab.keep (Keep.below hb (fun _ => False)) ⟨fun h => h, fun h => h, fun h => h, fun h => h⟩ rfl (fun _ h => .inl h) (fun _ h => .inl h)
theorem MachX.scratch {X : Nat → Prop} {g : Ghost} {w w' : World} {m : MFix} {role : Nat → Option Role} {vth vpk vhi : Value} {ov : Nat → Value} {tb : Nat → Nat} {pk : List Int} {M : Ct.Mach} (h : MachX X g w m role vth vpk vhi ov tb pk M) (a : Nat) (hk : Keep (fun k => k = a) w w') (hN : g.N a) (hF : ¬ g.Foot a) (hr : role a = none) : MachX X g w' m role vth vpk vhi ov tb pk M := by
  have hb := h.body
  have ne : ∀ k r, role k = some r → ¬ k = a := fun k r hk e => by rw [e, hr] at hk; cases hk
  have hNa : ∀ k, k = a → g.N k ∨ w.heap.size ≤ k := fun k e => .inl (e ▸ hN)
  refine ⟨h.arena.own hk hN hF, h.tab.keep hk ⟨ne _ _ hb.rhb, ne _ _ hb.rm1, ne _ _ hb.rm2, ne _ _ hb.rm3⟩ rfl (fun _ h => h) (fun _ h => .inl h), ⟨?_, ?_, ?_, ?_, fun i t ht => (hb.ops i t ht).keep hk hNa (fun _ h => .inl h), fun i t c hx ht hc => ?_, hb.rmb, hb.rhb, hb.rm1, hb.rm2, hb.rm3, hb.rth, hb.rhi, hb.rpk, fun k r hr' => ?_⟩, h.msk⟩
  · rw [hk.block _ (hb.rN _ _ hb.rmb).2.2 (ne _ _ hb.rmb)]; exact hb.blk
  · exact ownsRow_keep hb.ths hk (fun k hv => ne k _ (hb.rth k hv))
  · exact ownsRow_keep hb.hist hk (fun k hv => ne k _ (hb.rhi k hv))
  · exact ownsRow_keep hb.picks hk (fun k hv => ne k _ (hb.rpk k hv))
  · obtain ⟨⟨n, O, h1, h2, h4⟩, h3⟩ := hb.task i t c hx ht hc
    exact ⟨⟨n, O, h1.mv hk (ne _ _ h3) hNa (fun k hk => .inl (fun ho => ne _ _ (h4 k ho) hk)) rfl (fun _ h => .inl h) (fun _ h => h) (fun _ h => .inl h), h2, h4⟩, h3⟩
  · have := hb.rN k r hr'
    exact ⟨this.1, this.2.1, Nat.lt_of_lt_of_le this.2.2 hk.size⟩
end Go.Proofs.YtjlgchdekhmnnaaGreatDoor
end
