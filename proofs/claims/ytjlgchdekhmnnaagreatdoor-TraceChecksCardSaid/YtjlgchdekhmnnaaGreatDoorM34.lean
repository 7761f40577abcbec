/- Parts of a proof: Pl, Pj. -/
import Derived.Test.YtjlgchdekhmnnaaGreatDoorM30
import Derived.Test.YtjlgchdekhmnnaaGreatDoorM31
import Derived.Test.YtjlgchdekhmnnaaGreatDoorM33
section
namespace Go.Proofs.YtjlgchdekhmnnaaGreatDoor
open Go.RowKit
set_option linter.unusedVariables false
def startT (mask : Nat) (t : Ct.Trie) (o : Ct.Op) (s : Ct.St) : Ct.Code × Ct.St :=
  if o.kind = 9 then Ct.apply Ct.stOps (.frz0 t) 0 s
  else if o.kind = 7 then Ct.apply Ct.stOps (.fnd0 t { key := o.key, hash := Ct.hashOf o.key mask }) 0 s
  else (.done { err := 1 }, s)
def beginM (mask : Nat) (T : Ct.Tab) (th ix : Int) (o : Ct.Op) (s : Ct.St) : Ct.Tab × Ct.Code × Ct.St :=
  ({ T with ops := bput T.ops (Ct.numberC th ix) (o.kind, Ct.trieOf T o.handle, false) }, startT mask (Ct.trieOf T o.handle) o s)
def finishM (T : Ct.Tab) (th ix : Int) (r : Ct.Result) : Ct.Tab × Ct.Result :=
  match (T.ops.find? (fun p => p.1 == Ct.numberC th ix)).map (·.2) with
  | some (k, t0, false) => ({ T with ops := bput T.ops (Ct.numberC th ix) (k, t0, true), tries := if r.err = 0 ∧ k = 9 then tput T.tries (Ct.numberC th ix) r.trie else T.tries }, { r with ref := 0, trie := {} })
  | _ => (T, {})
def KindOk (o : Ct.Op) : Prop := o.kind = 0 ∨ o.kind = 9 ∨ (o.kind = 7 ∧ o.key.size ≤ 64)
def KnownOp (T : Ct.Tab) (o : Ct.Op) : Prop := o.kind = 0 ∨ ((o.kind = 9 ∨ (o.kind = 7 ∧ o.key.size ≤ 64)) ∧ ∃ t, (T.tries.find? (fun p => p.1 == o.handle)).map (·.2) = some t)
theorem startT_wt (mask : Nat) (t : Ct.Trie) (o : Ct.Op) (s : Ct.St) (h : KindOk o) : (startT mask t o s).1.wt := by
  unfold startT
  split
  · exact Ct.apply_wt _ (.frz0 _) trivial _ _
  · split
    · rename_i h9 h7
      have hk : o.key.size ≤ 64 := h.elim (fun e => absurd e (by omega)) (fun h => h.elim (fun e => absurd e h9) And.right)
      exact Ct.apply_wt _ (.fnd0 _ _) ⟨hashOf_lt _ _, by show o.key.size ≤ _; omega⟩ _ _
    · trivial
theorem startT_rank (mask : Nat) (t : Ct.Trie) (o : Ct.Op) (s : Ct.St) : (startT mask t o s).1.rank ≤ 60 := by
  unfold startT
  split
  · exact Nat.le_trans (Ct.apply_rank _ (.frz0 _) _ _) (by simp [Ct.K.rank])
  · split
    · exact Nat.le_trans (Ct.apply_rank _ (.fnd0 _ _) _ _) (by simp [Ct.K.rank])
    · exact Nat.zero_le _
theorem startT_fin (mask : Nat) (t : Ct.Trie) (o : Ct.Op) (s : Ct.St) (n : Nat) (h : KindOk o) (hf : Fin (n + 10) s) : Fin n (startT mask t o s).2 := by
  unfold startT
  split
  · exact Fin.apply (.frz0 _) trivial _ _ _ hf
  · split
    · rename_i h9 h7
      have hk : o.key.size ≤ 64 := h.elim (fun e => absurd e (by omega)) (fun h => h.elim (fun e => absurd e h9) And.right)
      exact Fin.apply (.fnd0 _ _) ⟨hashOf_lt _ _, by show o.key.size ≤ _; omega⟩ _ _ _ hf
    · exact hf.less (by omega)
theorem begin_all (g : Ghost) (w : World) (s : Ct.St) (hb m1 m2 m3 mask : Nat) (T : Ct.Tab) (th ix : Int) (o : Ct.Op) (h : ArenaAt g w s) (ht : TabAt g w hb m1 m2 m3 mask T) (hfin : Fin 1000 s) (hn : 0 ≤ Ct.numberC th ix) (hnew : T.ops.find? (fun p => p.1 == Ct.numberC th ix) = none) (hk : KnownOp T o) (hm : mask < 18446744073709551616) (mk : Nat) (hmm : mk = mask) :
    Calls Tryz.prog 12 #[.pointer (some ⟨hb, 0, none⟩), .int .i64 th, .int .i64 ix, .agg (opC o).toArray] w (BeginRes g w hb m1 m2 m3 mask (beginM mk T th ix o s).1 (beginM mk T th ix o s).2) := by
  have hmm2 := hmm.symm; subst hmm2
  obtain ⟨kind, hd, key, x, y⟩ := o
  rcases hk with hk | ⟨hk, t, hl⟩
  · simp only at hk; subst hk
    exact begin_zero g w s hb m1 m2 m3 mask T th ix hd key x y _ h ht hfin hn hnew rfl
  · simp only at hk hl
    have e : Ct.trieOf T hd = t := by unfold Ct.trieOf; rw [hl]; rfl
    unfold beginM
    simp only [e]
    rcases hk with hk | ⟨hk, hks⟩
    · subst hk
      exact begin_freeze g w s hb m1 m2 m3 mask T th ix hd key x y t h ht hfin hn hnew hl
    · subst hk
      exact begin_lookup g w s hb m1 m2 m3 mask T th ix hd key x y t h ht hfin hn hnew hl hks hm
theorem finish_all (g : Ghost) (w : World) (s : Ct.St) (hb m1 m2 m3 mask : Nat) (T : Ct.Tab) (th ix k : Int) (t0 : Ct.Trie) (r : Ct.Result) (h : ArenaAt g w s) (ht : TabAt g w hb m1 m2 m3 mask T) (hl : (T.ops.find? (fun p => p.1 == Ct.numberC th ix)).map (·.2) = some (k, t0, false)) (hk : r.err ≠ 0 ∨ k = 9 ∨ k = 7) :
    Calls Tryz.prog 47 #[.pointer (some ⟨hb, 0, none⟩), .int .i64 th, .int .i64 ix, .agg (resCells r).toArray] w (FinRes g w s hb m1 m2 m3 mask (finishM T th ix r).1 (finishM T th ix r).2) := by
  obtain ⟨er, fd, va, ky, ct, rf, ⟨rt, ro⟩⟩ := r
  unfold finishM
  rw [hl]
  by_cases he : er = 0
  · subst he
    rcases hk.elim (fun h => absurd rfl h) id with hk9 | hk7
    · subst hk9
      exact finish_freeze g w s hb m1 m2 m3 mask T th ix t0 ⟨rt, ro⟩ fd va ky ct rf h ht hl
    · subst hk7
      exact finish_plain g w s hb m1 m2 m3 mask T th ix 7 t0 ⟨rt, ro⟩ fd va ky ct rf h ht hl (by decide)
  · have := finish_err g w s hb m1 m2 m3 mask T th ix k er t0 ⟨rt, ro⟩ fd va ky ct rf h ht hl he
    simp only [he, false_and, if_false]
    exact this
def firstM (i : Nat) (t : Ct.Th) (M : Ct.Mach) : Ct.Mach × Ct.Code :=
  match t.present with
  | none =>
    let b := beginM M.mask M.tab i t.index (t.ops.getD t.index {}) M.st
    ({ st := b.2.2, tab := b.1, count := M.count + 1, history := M.history ++ [{ thread := i, index := t.index }], threads := M.threads.set i { t with present := some b.2.1 }, mask := M.mask }, b.2.1)
  | some c => ({ M with st := (Ct.step c M.st).2, count := M.count + 1, threads := M.threads.set i { t with present := some (Ct.step c M.st).1 } }, (Ct.step c M.st).1)
def lastM (i : Nat) (t : Ct.Th) (M : Ct.Mach) : Ct.Code → Ct.Mach
  | .done r =>
    let f := finishM M.tab i t.index r
    { M with tab := f.1, history := M.history ++ [{ thread := i, index := t.index, ret := true, result := f.2 }], threads := M.threads.set i { t with present := none, index := t.index + 1 } }
  | _ => M
def pickM (th : Int) (M : Ct.Mach) : Ct.Mach × Bool :=
  if th < 0 then (M, false)
  else match M.threads[th.toNat]? with
    | none => (M, false)
    | some t => if t.ops.length ≤ t.index then (M, false) else (lastM th.toNat t (firstM th.toNat t M).1 (firstM th.toNat t M).2, true)
structure ThInv (T : Ct.Tab) (i : Nat) (t : Ct.Th) : Prop where
  ops : t.ops.length ≤ 16
  kinds : ∀ o ∈ t.ops, KindOk o ∧ (o.kind = 0 ∨ o.handle = 0)
  code : ∀ c, t.present = some c → c.wt ∧ c.rank ≤ 60 ∧ t.index < t.ops.length ∧ Code.isDone c = false
  later : ∀ j : Nat, t.index ≤ j → j < 16 → (t.present = none ∨ j ≠ t.index) → T.ops.find? (fun p => p.1 == Ct.numberC i j) = none
  now : t.present.isSome = true → ∃ k t0, (T.ops.find? (fun p => p.1 == Ct.numberC i t.index)).map (·.2) = some (k, t0, false) ∧ (k = 9 ∨ k = 7)
structure MInv (n : Nat) (M : Ct.Mach) : Prop where
  fin : Fin (61000 + 100 * n) M.st
  cnt : M.count + n ≤ 1000000
  hist : M.history.length + 2 * n ≤ 1000000
  nth : M.threads.length ≤ 8
  th : ∀ i t, M.threads[i]? = some t → ThInv M.tab i t
  msk : M.mask < 18446744073709551616
  zero : ∃ t, (M.tab.tries.find? (fun p => p.1 == 0)).map (·.2) = some t
end Go.Proofs.YtjlgchdekhmnnaaGreatDoor
end
section
namespace Go.Proofs.YtjlgchdekhmnnaaGreatDoor
open Go.RowKit
set_option linter.unusedVariables false
theorem ne_of_some {x : Option Role} {r : Role} (h : x = some r) : x ≠ none := by rw [h]; simp
def PickRes (g : Ghost) (w : World) (m : MFix) (role0 : Nat → Option Role) (vpk : Value) (pk : List Int) (r : Ct.Mach × Bool) (e : Ending) (w' : World) : Prop :=
  ∃ vn vc N role vth vhi ov tb, e = .returned (.bool r.2) ∧ MachX (fun _ => False) ⟨g.a, vn, vc, N⟩ w' m role vth vpk vhi ov tb pk r.1 ∧ MvN (Own g role0) g w (Own ⟨g.a, vn, vc, N⟩ role) ⟨g.a, vn, vc, N⟩ w'
theorem op_cells {N : Nat → Prop} {w : World} {v : Value} {os : List Ct.Op} (h : OpsAt N w v os) (j : Nat) (o : Ct.Op) (hj : os[j]? = some o) : ∃ b off cap, v = .slice (some ⟨b, off, none⟩) os.length cap ∧ ¬ N b ∧ b < w.heap.size ∧ ∀ k, k < 5 → w.cell? ⟨b, off + j * 5 + k, none⟩ = (opC o)[k]? := by
  have hlt := (List.getElem?_eq_some_iff.1 hj).1
  rcases h with ⟨_, h0, _⟩ | ⟨b, off, cap, hv, hb, hl, hc, hm, hcell⟩
  · omega
  · refine ⟨b, off, cap, hv, hb, hl, fun k hk => ?_⟩
    have e := ops_get os j k o hj hk
    obtain ⟨x, hx⟩ : ∃ x, (opC o)[k]? = some x := ⟨(opC o)[k]'(by rw [opC_len]; exact hk), List.getElem?_eq_getElem _⟩
    rw [hx] at e ⊢
    rw [Nat.mul_comm j 5, Nat.add_assoc]
    exact hcell _ _ e
def Join (ACT : Nat → Nat → Act) (POST : Nat → Nat → World → Prop) (A : Act) (W : World) : Prop := ∃ a b, A = ACT a b ∧ POST a b W
theorem Join.of {ACT : Nat → Nat → Act} {POST : Nat → Nat → World → Prop} {W : World} (a b : Nat) (h : POST a b W) : Join ACT POST (ACT a b) W := ⟨a, b, rfl, h⟩
theorem wp_join {P : Program} {c : Code} {K : Act → World → Prop} {Q : Exit → Act → World → Prop} {a : Act} {w : World} {ACT : Nat → Nat → Act} (POST : Nat → Nat → World → Prop) (h : c.wp P (Exit.then (Join ACT POST) Q) a w) (k : ∀ a b W, POST a b W → Exit.then K Q .normal (ACT a b) W) : c.wp P (Exit.then K Q) a w := by
  refine Code.wp_mono (fun e A W he => ?_) h
  cases e with
  | normal => obtain ⟨x, y, h2, h3⟩ := he; subst h2; exact k x y W h3
  | _ => exact he
def EvPost (W2 : World) (vhi : Value) (m : MFix) (len : Nat) (xs : List Value) (gb cap : Nat) (W : World) : Prop :=
  ∃ w3, W = w3.setCell ⟨m.mb, 4, none⟩ (.slice (some ⟨gb, 0, none⟩) (len + 1) cap) ∧ w3.ownsRow 0 132 11 (.slice (some ⟨gb, 0, none⟩) (len + 1) cap) (len + 1) xs ∧ Keep (fun k => vhi.ownBlock = some k ∨ W2.heap.size ≤ k) W2 w3 ∧ (vhi.ownBlock = some gb ∨ W2.heap.size ≤ gb)
theorem EvPost.of {W2 w3 : World} {vhi : Value} {m : MFix} {len gb cap : Nat} {xs : List Value} {o : Obj} (hown : w3.ownsRow 0 132 11 (.slice (some ⟨gb, 0, none⟩) (len + 1) cap) (len + 1) xs) (hg : (W2.alloc o).grownBy w3 vhi.ownBlock) (hat : vhi.ownBlock = some gb ∨ gb = (W2.alloc o).heap.size) : EvPost W2 vhi m len xs gb cap (w3.setCell ⟨m.mb, 4, none⟩ (.slice (some ⟨gb, 0, none⟩) (len + 1) cap)) :=
  ⟨w3, rfl, hown, (Keep.alloc _ W2 o).trans (grown_keep hg) (fun k h => .inl (.inl h)), hat.imp id (fun h => by rw [h]; simp)⟩
structure SevenS (m : MFix) (gt i off ob : Nat) (t : Ct.Th) (o : Ct.Op) (ocap : Nat) (W : World) : Prop where
  c1 : W.cell? ⟨m.mb, 1, none⟩ = some (.pointer (some ⟨m.hb, 0, none⟩))
  t0 : W.cell? ⟨gt, i * 3, none⟩ = some (.slice (some ⟨ob, off, none⟩) t.ops.length ocap)
  t1 : W.cell? ⟨gt, i * 3 + 1, none⟩ = some (.int .i64 (t.index : Nat))
  o0 : W.cell? ⟨ob, off + t.index * 5, none⟩ = some (.int .i64 o.kind)
  o1 : W.cell? ⟨ob, off + t.index * 5 + 1, none⟩ = some (.int .i64 o.handle)
  o2 : W.cell? ⟨ob, off + t.index * 5 + 2, none⟩ = some (.string o.key)
  o3 : W.cell? ⟨ob, off + t.index * 5 + 3, none⟩ = some (.int .u64 (o.value : Nat))
  o4 : W.cell? ⟨ob, off + t.index * 5 + 4, none⟩ = some (.int .u64 (o.expect : Nat))
theorem SevenS.set {m : MFix} {gt i off ob : Nat} {t : Ct.Th} {o : Ct.Op} {ocap : Nat} {W : World} (h : SevenS m gt i off ob t o ocap W) (v : Value) (h1 : ob ≠ gt) (h2 : m.mb ≠ gt) : SevenS m gt i off ob t o ocap (W.setCell ⟨gt, i * 3 + 2, none⟩ v) := by
  have far : ∀ (b k : Nat) (x : Value), b ≠ gt → W.cell? ⟨b, k, none⟩ = some x → (W.setCell ⟨gt, i * 3 + 2, none⟩ v).cell? ⟨b, k, none⟩ = some x := fun b k x hb hx => by
    rw [World.cell?_setCell_other _ _ _ _ (fun e => by injection e with e1 e2; exact hb (by first | exact e1 | exact e1.symm))]; exact hx
  have near : ∀ (k : Nat) (x : Value), k ≠ i * 3 + 2 → W.cell? ⟨gt, k, none⟩ = some x → (W.setCell ⟨gt, i * 3 + 2, none⟩ v).cell? ⟨gt, k, none⟩ = some x := fun k x hb hx => by
    rw [World.cell?_setCell_other _ _ _ _ (fun e => by injection e with e1 e2; exact hb (by first | exact e2 | exact e2.symm))]; exact hx
  exact ⟨far _ _ _ h2 h.c1, near _ _ (by omega) h.t0, near _ _ (by omega) h.t1, far _ _ _ h1 h.o0, far _ _ _ h1 h.o1, far _ _ _ h1 h.o2, far _ _ _ h1 h.o3, far _ _ _ h1 h.o4⟩
def BegPost (g : Ghost) (w : World) (m : MFix) (at_ : Addr) (T : Ct.Tab) (c : Ct.Code × Ct.St) (tb _b : Nat) (W : World) : Prop :=
  ∃ w5 vn vc N O, W = w5.setCell at_ (.pointer (some ⟨tb, 0, none⟩)) ∧ w.heap.size ≤ tb ∧ ArenaAt ⟨g.a, vn, vc, N⟩ w5 c.2 ∧ TabAt ⟨g.a, vn, vc, N⟩ w5 m.hb m.m1 m.m2 m.m3 m.mask T ∧ (∀ k, O k → w.heap.size ≤ k) ∧ TaskAt O ⟨g.a, vn, vc, N⟩ w5 tb c.1 0 ∧ StepF (fun k => k = m.m1) g w ⟨g.a, vn, vc, N⟩ w5
structure Mid (g : Ghost) (w : World) (role0 : Nat → Option Role) (m : MFix) (pk : List Int) (i : Nat) (t : Ct.Th) (M : Ct.Mach) (gt cap : Nat) (g5 : Ghost) (W5 : World) (role : Nat → Option Role) (vpk vhi : Value) (ov : Nat → Value) (tb : Nat → Nat) (M5 : Ct.Mach) (c5 : Ct.Code) : Prop where
  mach : MachX (fun _ => False) g5 W5 m role (.slice (some ⟨gt, 0, none⟩) M5.threads.length cap) vpk vhi ov tb pk M5
  th : M5.threads[i]? = some { t with present := some c5 }
  mv : MvN (Own g role0) g w (Own g5 role) g5 W5
  ga : g5.a = g.a
  eq : firstM i t M = (M5, c5)
  known : ∃ k t0, (M5.tab.ops.find? (fun p => p.1 == Ct.numberC (i : Nat) (t.index : Nat))).map (·.2) = some (k, t0, false) ∧ ∀ r, c5 = .done r → r.err ≠ 0 ∨ k = 9 ∨ k = 7
  len : M5.history.length ≤ 1000000
  idx : t.index ≤ 16
structure TenS (m : MFix) (gt i tb ix : Nat) (W : World) : Prop where
  c1 : W.cell? ⟨m.mb, 1, none⟩ = some (.pointer (some ⟨m.hb, 0, none⟩))
  t1 : W.cell? ⟨gt, i * 3 + 1, none⟩ = some (.int .i64 (ix : Nat))
  t2 : W.cell? ⟨gt, i * 3 + 2, none⟩ = some (.pointer (some ⟨tb, 0, none⟩))
theorem MachX.ten {X : Nat → Prop} {g : Ghost} {w : World} {m : MFix} {role : Nat → Option Role} {vpk vhi : Value} {ov : Nat → Value} {tb : Nat → Nat} {pk : List Int} {M : Ct.Mach} {gt cap i n : Nat} {t : Ct.Th} {c : Ct.Code} (h : MachX X g w m role (.slice (some ⟨gt, 0, none⟩) n cap) vpk vhi ov tb pk M) (hi : M.threads[i]? = some t) (hc : t.present = some c) : TenS m gt i (tb i) t.index w := by
  obtain ⟨gt', cap', hvt, hr3, hcell3, hfree3⟩ := h.body.thread i t hi
  injection hvt with e1 e2 e3; injection e1 with e1; injection e1 with e1; subst e1
  exact ⟨h.body.cell 1, hcell3 1 (by decide), by rw [hcell3 2 (by decide)]; simp [thC, hc]⟩
def TenPost (C : Ghost → World → Prop) (g5 : Ghost) (W5 : World) (role : Nat → Option Role) (R : Ct.Result) (a _b : Nat) (W : World) : Prop :=
  ∃ N, C ⟨g5.a, g5.vn, g5.vc, N⟩ W ∧ W.heap[a]? = some (.cells (resCells R).toArray 45 (0, 0)) ∧ MvN (Own g5 role) g5 W5 (Own ⟨g5.a, g5.vn, g5.vc, N⟩ role) ⟨g5.a, g5.vn, g5.vc, N⟩ W ∧ role a = none
abbrev set8 (w : World) (b : Nat) (v0 v1 v2 v3 v4 v5 v6 v7 : Value) : World := (((((((w.setCell ⟨b, 0, none⟩ v0).setCell ⟨b, 1, none⟩ v1).setCell ⟨b, 2, none⟩ v2).setCell ⟨b, 3, none⟩ v3).setCell ⟨b, 4, none⟩ v4).setCell ⟨b, 5, none⟩ v5).setCell ⟨b, 6, none⟩ v6).setCell ⟨b, 7, none⟩ v7
theorem keep8 (w : World) (b : Nat) (v0 v1 v2 v3 v4 v5 v6 v7 : Value) : Keep (fun k => k = b) w (set8 w b v0 v1 v2 v3 v4 v5 v6 v7) := by
  have st : ∀ (w : World) (o : Nat) (v : Value), Keep (fun k => k = b) w (w.setCell ⟨b, o, none⟩ v) := fun w o v => Keep.setCell w ⟨b, o, none⟩ v rfl
  exact (((((((st w 0 v0).trans (st _ 1 v1) (fun _ h => .inl h)).trans (st _ 2 v2) (fun _ h => .inl h)).trans (st _ 3 v3) (fun _ h => .inl h)).trans (st _ 4 v4) (fun _ h => .inl h)).trans (st _ 5 v5) (fun _ h => .inl h)).trans (st _ 6 v6) (fun _ h => .inl h)).trans (st _ 7 v7) (fun _ h => .inl h)
theorem heap8 {w : World} {b : Nat} {t : TypeId} (v0 v1 v2 v3 v4 v5 v6 v7 : Value) (h : w.heap[b]? = some (.cells zeroRes t (0, 0))) : (set8 w b v0 v1 v2 v3 v4 v5 v6 v7).heap[b]? = some (.cells #[v0, v1, v2, v3, v4, v5, v6, v7] t (0, 0)) :=
  by
  have x0 := heap_setCell_at w b 0 v0 _ _ _ h
  have x1 := heap_setCell_at _ b 1 v1 _ _ _ x0
  have x2 := heap_setCell_at _ b 2 v2 _ _ _ x1
  have x3 := heap_setCell_at _ b 3 v3 _ _ _ x2
  have x4 := heap_setCell_at _ b 4 v4 _ _ _ x3
  have x5 := heap_setCell_at _ b 5 v5 _ _ _ x4
  have x6 := heap_setCell_at _ b 6 v6 _ _ _ x5
  have x7 := heap_setCell_at _ b 7 v7 _ _ _ x6
  rw [x7]
  simp [zeroRes]
theorem MvN.ten {g : Ghost} {W W' : World} {N' : Nat → Prop} {m : MFix} {role : Nat → Option Role} (h1 : role m.m1 = some .ops) (h2 : role m.m2 = some .tries) (hk : Keep (fun k => (k = m.m1 ∨ k = m.m2) ∨ W.heap.size ≤ k) W W') (hN : ∀ k, N' k → g.N k ∨ W.heap.size ≤ k) (hO : ∀ k, g.N k → N' k) : MvN (Own g role) g W (Own ⟨g.a, g.vn, g.vc, N'⟩ role) ⟨g.a, g.vn, g.vc, N'⟩ W' :=
  ⟨⟨_, hk, fun k hk => by rcases hk with (e | e) | e; exact .inl (.inr (by rw [e, h1]; simp)); exact .inl (.inr (by rw [e, h2]; simp)); exact .inr e⟩, hN, hO, fun _ h => .inl h⟩
theorem MvN.setCell {g : Ghost} {role : Nat → Option Role} (W : World) (b o : Nat) (v : Value) (hN : role b ≠ none) : MvN (Own g role) g W (Own g role) g (W.setCell ⟨b, o, none⟩ v) := ⟨⟨fun k => k = b, Keep.setCell W ⟨b, o, none⟩ v rfl, fun k e => .inl (.inr (e ▸ hN))⟩, fun _ h => .inl h, fun _ h => h, fun _ h => .inl h⟩
theorem MachX.eventMv {X : Nat → Prop} {g : Ghost} {w w1 : World} {m : MFix} {role : Nat → Option Role} {vth vpk vhi v : Value} {ov : Nat → Value} {tb : Nat → Nat} {pk : List Int} {M : Ct.Mach} (h : MachX X g w m role vth vpk vhi ov tb pk M) (gb : Nat)
    (hk : Keep (fun k => vhi.ownBlock = some k ∨ w.heap.size ≤ k) w w1) (hgb : vhi.ownBlock = some gb ∨ w.heap.size ≤ gb) : MvN (Own g role) g w (Own (g.withN fun k => g.N k ∨ k = gb) (fun k => if k = gb then some .hist else role k)) (g.withN fun k => g.N k ∨ k = gb) (w1.setCell ⟨m.mb, 4, none⟩ v) := by
  refine ⟨⟨fun k => (vhi.ownBlock = some k ∨ w.heap.size ≤ k) ∨ k = m.mb, (hk.mono (fun k _ h => .inl h)).trans (Keep.setCell (F := fun k => k = m.mb) w1 ⟨m.mb, 4, none⟩ _ rfl) (fun k e => .inl (.inr e)), fun k hk => ?_⟩, fun k hk => hk.elim .inl (fun e => hgb.imp (fun h1 => e ▸ (h.body.rN _ _ (h.body.rhi _ h1)).1) (fun h1 => e ▸ h1)), fun k hk => .inl hk, fun k hk => ?_⟩
  · rcases hk with (h1 | h1) | h1
    · exact .inl (.inr (by rw [h.body.rhi _ h1]; simp))
    · exact .inr h1
    · exact .inl (.inr (by rw [h1, h.body.rmb]; simp))
  · rcases hk with h1 | h1
    · exact .inl (.inl h1)
    · by_cases e : k = gb
      · exact hgb.imp (fun h2 => .inr (by rw [e, h.body.rhi _ h2]; simp)) (fun h2 => e ▸ h2)
      · dsimp only at h1; rw [if_neg e] at h1; exact .inl (.inr h1)
theorem bput_find (es : List (Int × Int × Ct.Trie × Bool)) (k : Int) (v : Int × Ct.Trie × Bool) : ((bput es k v).find? (fun p => p.1 == k)).map (·.2) = some v := by
  unfold bput
  split
  · rename_i h
    induction es with
    | nil => simp at h
    | cons p l ih =>
      simp only [List.map_cons]
      by_cases hp : p.1 == k
      · rw [if_pos hp, List.find?_cons_of_pos (by simp)]; rfl
      · rw [if_neg hp, List.find?_cons_of_neg (by simpa using hp)]
        exact ih (by simpa [hp] using h)
  · rename_i h
    have : es.find? (fun p => p.1 == k) = none := by
      rw [List.find?_eq_none]; intro p hp hq
      exact h (List.any_eq_true.2 ⟨p, hp, hq⟩)
    rw [List.find?_append, this]; simp
end Go.Proofs.YtjlgchdekhmnnaaGreatDoor
end
