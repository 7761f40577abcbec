/- Parts of a proof: E3. -/
import Derived.Test.YtjlgchdekhmnnaaGreatDoorTC01
import Derived.IntWalk
set_option linter.unusedVariables false
set_option linter.unusedSimpArgs false
section
namespace Go.E
variable {P : Program} {n : Nat} {K : Post} {e : Tm} {w : World} {ops : Array Oper} {l : List Oper} {S : World → Prop} {ls : List (Oper × Bool)} {B : World} {L L' : List As}
variable {d : Option Tmp} {ty : TypeId} {ps : String} {af : Array Edge} {g : Option (Nat × Bool)}
def oneC (P : Program) (t : TypeId) : Bool := match P.underlying t with
 | some d => !isRow d && (P.info? t).map (·.size) == some 1
 | none => false
def fo (P : Program) (s : TypeId) (i : Nat) : Option Nat := match P.underlying s with
 | some (.struct fs) => match fs[i]? with
  | some f => match P.info? f.type with
   | some inf => bif Nat.beq inf.size 0 then none else some f.offset
   | none => none
  | none => none
 | _ => none
def fv (P : Program) (s : TypeId) (i : Nat) : Option (Nat × Nat × Bool) := match P.underlying s with
 | some (.struct fs) => match fs[i]? with
  | some f => match P.info? f.type, P.underlying f.type with
   | some inf, some d => some (f.offset, inf.size, isRow d)
   | _, _ => none
  | none => none
 | _ => none
def zc (P : Program) (t : TypeId) : Option (List Value) := match P.info? t with
 | some i => i.zero.map fun v => v.cells.toList
 | none => none
theorem isAgg_run {t : TypeId} {d : TypeDesc} (h : P.underlying t = some d) : (isAgg t).run P w = .ok (isRow d) w := by
 unfold isAgg
 simp only [Sem.run_bind, run_underlying h, Result.andThen_ok]
 cases d <;> rfl
theorem oneC_spec {t : TypeId} (h : oneC P t = true) : (isAgg t).run P w = .ok false w ∧ (P.info? t).map (·.size) = some 1 := by
 unfold oneC at h
 cases hd : P.underlying t with
 | none => rw [hd] at h; cases h
 | some d =>
  rw [hd] at h
  simp only [Bool.and_eq_true, Bool.not_eq_true', beq_iff_eq] at h
  exact ⟨by rw [isAgg_run hd, h.1], h.2⟩
theorem Fits.evalA {a : Act} (h : Fits n e a) {xs : Array Operand} {vs : List Value} (hx : evs n e xs.toList = some vs) : xs.map a.eval = vs.toArray := by
 rw [← h.evals hx]; apply Array.ext'; simp
theorem mv {x : Operand} {v : Value} (hx : ev n e x = some v) : Y P n e ⟨d, .move x, ty, ps, af, g⟩ w v w := fun a ha => by
 simp [execOp, ha.eval hx]
theorem sg {x : Operand} {v : Value} (hx : ev n e x = some v) : Y P n e ⟨d, .assign x, ty, ps, af, g⟩ w v w := fun a ha => by
 simp [execOp, ha.eval hx]
theorem fa {s : TypeId} {i off o b : Nat} {x : Operand} (hF : fo P s i = some off) (hx : ev n e x = some (.pointer (some ⟨b, o, none⟩))) : Y P n e ⟨d, .fieldAddr s x i, ty, ps, af, g⟩ w (.pointer (some ⟨b, o + off, none⟩)) w := fun a ha => by
 unfold fo at hF
 cases hd : P.underlying s with
 | none => rw [hd] at hF; cases hF
 | some dd =>
  rw [hd] at hF
  cases dd <;> try (cases hF; done)
  rename_i fs
  dsimp only at hF
  cases hf : fs[i]? with
  | none => rw [hf] at hF; cases hF
  | some f =>
   rw [hf] at hF
   dsimp only at hF
   cases hi : P.info? f.type with
   | none => rw [hi] at hF; cases hF
   | some inf =>
    rw [hi] at hF
    dsimp only at hF
    cases hz : Nat.beq inf.size 0 with
    | true => rw [hz] at hF; cases hF
    | false =>
     rw [hz] at hF
     simp only [cond_false, Option.some.injEq] at hF
     have hz' : inf.size ≠ 0 := fun e => by rw [e] at hz; cases hz
     have hadd : (⟨b, o, none⟩ : Addr).add f.offset = ⟨b, o + f.offset, none⟩ := by
      unfold Addr.add; split
      ·rename_i h0; rw [h0]; rfl
      ·rfl
     subst hF
     simp [execOp, ha.eval hx, Instr.fieldAt, run_underlying hd, hf, Instr.sureAddr, fieldPlace, sizeOf, typeInfo, hi, hz', hadd]
theorem fd {s : TypeId} {i off : Nat} {x : Operand} {cs : List Value} {v : Value} (hF : fv P s i = some (off, 1, false)) (hx : ev n e x = some (.agg cs.toArray)) (hv : cs[off]? = some v) : Y P n e ⟨d, .field s x i, ty, ps, af, g⟩ w v w := fun a ha => by
 unfold fv at hF
 cases hd : P.underlying s with
 | none => rw [hd] at hF; cases hF
 | some dd =>
  rw [hd] at hF
  cases dd <;> try (cases hF; done)
  rename_i fs
  dsimp only at hF
  cases hf : fs[i]? with
  | none => rw [hf] at hF; cases hF
  | some f =>
   rw [hf] at hF
   dsimp only at hF
   cases hi : P.info? f.type with
   | none => rw [hi] at hF; cases hF
   | some inf =>
    cases hu : P.underlying f.type with
    | none => rw [hi, hu] at hF; cases hF
    | some d2 =>
     rw [hi, hu] at hF
     simp only [Option.some.injEq, Prod.mk.injEq] at hF
     obtain ⟨h1, h2, h3⟩ := hF
     have hg := isAgg_run (w := w) hu
     rw [h3] at hg
     simp [execOp, ha.eval hx, Instr.field, run_underlying hd, hf, asAgg, part, hg, h1, hv]
theorem xr {x : Operand} {i : Nat} {vs : List Value} {v : Value} (hx : ev n e x = some (.tuple vs.toArray)) (hv : vs[i]? = some v) : Y P n e ⟨d, .extract x i, ty, ps, af, g⟩ w v w := fun a ha => by
 simp [execOp, ha.eval hx, Instr.extract, hv]
theorem ld {t : TypeId} {x : Operand} {p : Addr} {v : Value} (hT : oneC P t = true) (hx : ev n e x = some (.pointer (some p))) (hc : w.cell? p = some v) : Y P n e ⟨d, .load t x, ty, ps, af, g⟩ w v w := fun a ha => by
 have h1 := (oneC_spec (w := w) hT).1
 simp [execOp, ha.eval hx, Instr.loadAt, Instr.sureAddr, loadVar, h1, load, Sem.run, hc]
theorem addr_add (b o j : Nat) : (⟨b, o, none⟩ : Addr).add j = ⟨b, o + j, none⟩ := by
 unfold Addr.add; split
 ·rename_i h0; rw [h0]; rfl
 ·rfl
theorem run_rows {t : TypeId} {b o : Nat} {cs : List Value} (hT : rowN P t = some cs.length) (hc : ∀ j v, cs[j]? = some v → w.cell? ⟨b, o + j, none⟩ = some v) : (loadVar t ⟨b, o, none⟩).run P w = .ok (.agg cs.toArray) w := by
 obtain ⟨dd, h1, h2, h3⟩ := rowN_spec hT
 have hg := isAgg_run (w := w) h1
 rw [h2] at hg
 have hl := run_loadCells_list (P := P) w ⟨b, o, none⟩ cs (fun j v hv => by rw [addr_add]; exact hc j v hv)
 cases hq : P.info? t with
 | none => rw [hq] at h3; cases h3
 | some i =>
  rw [hq] at h3
  have h4 : i.size = cs.length := by simpa using h3
  simp [loadVar, hg, sizeOf, typeInfo, hq, h4, hl]
theorem ldr {t : TypeId} {x : Operand} {b o : Nat} {cs : List Value} (hx : ev n e x = some (.pointer (some ⟨b, o, none⟩))) (hc : ∀ j v, cs[j]? = some v → w.cell? ⟨b, o + j, none⟩ = some v) (hT : rowN P t = some cs.length) : Y P n e ⟨d, .load t x, ty, ps, af, g⟩ w (.agg cs.toArray) w := fun a ha => by
 simp [execOp, ha.eval hx, Instr.loadAt, Instr.sureAddr, run_rows hT hc]
theorem rows_of {b : Nat} {cs : List Value} {t : TypeId} (h : w.heap[b]? = some (.cells cs.toArray t (0, 0))) (o : Nat) {c2 : List Value} (hc : (cs.drop o).take c2.length = c2) : ∀ j v, c2[j]? = some v → w.cell? ⟨b, o + j, none⟩ = some v := fun j v hj => by
 have hl := (List.getElem?_eq_some_iff.1 hj).1
 rw [← hc, List.getElem?_take, if_pos hl, List.getElem?_drop] at hj
 simp [World.cell?, h, hj]
theorem rows_all {b : Nat} {cs : List Value} {t : TypeId} (h : w.heap[b]? = some (.cells cs.toArray t (0, 0))) : ∀ j v, cs[j]? = some v → w.cell? ⟨b, 0 + j, none⟩ = some v := fun j v hj => by
 simp [World.cell?, h, hj]
def ibin (op : BinOp) (k : IntKind) (a b : Int) : Option Value :=
 match op with
 | .add => some (.int k (k.wrap (a + b)))
 | .sub => some (.int k (k.wrap (a - b)))
 | .mul => some (.int k (k.wrap (a * b)))
 | .eql => some (.bool (a == b))
 | .neq => some (.bool (a != b))
 | .lss => some (.bool (decide (a < b)))
 | .leq => some (.bool (decide (a ≤ b)))
 | .gtr => some (.bool (decide (a > b)))
 | .geq => some (.bool (decide (a ≥ b)))
 | .and => some (.int k (k.wrap (BitVec.ofInt k.bits a &&& BitVec.ofInt k.bits b).toNat))
 | .or => some (.int k (k.wrap (BitVec.ofInt k.bits a ||| BitVec.ofInt k.bits b).toNat))
 | .xor => some (.int k (k.wrap (BitVec.ofInt k.bits a ^^^ BitVec.ofInt k.bits b).toNat))
 | .andNot => some (.int k (k.wrap (BitVec.ofInt k.bits a &&& ~~~ BitVec.ofInt k.bits b).toNat))
 | _ => none
theorem bi {op : BinOp} {xt yt : TypeId} {x y : Operand} {k : IntKind} {a b : Int} {v : Value} (hx : ev n e x = some (.int k a)) (hy : ev n e y = some (.int k b)) (hr : ibin op k a b = some v) : Y P n e ⟨d, .binOp op xt x y yt, ty, ps, af, g⟩ w v w := fun c hc => by
 cases op <;> simp only [ibin, Option.some.injEq] at hr <;> first
  | (cases hr; done)
  | (subst hr; simp [execOp, hc.eval hx, hc.eval hy, eqGuard, binOp, Op.intArith, Op.intCmp, Op.intBits])
theorem bw {op : BinOp} {xt yt : TypeId} {x y : Operand} {k : IntKind} {a b c : Int} (hx : ev n e x = some (.int k a)) (hy : ev n e y = some (.int k b)) (hr : ibin op k a b = some (.int k c)) : Y P n e ⟨d, .binOp op xt x y yt, ty, ps, af, g⟩ w (.int k c) w := bi hx hy hr
theorem w64 {a : Int} (h0 : -9223372036854775808 ≤ a) (h1 : a ≤ 9223372036854775807) : IntKind.i64.wrap a = a := by rw [IntKind.wrap_i64]; omega
theorem wadd {a b c : Int} (hc : a + b = c) (h0 : -9223372036854775808 ≤ c) (h1 : c ≤ 9223372036854775807) : ibin .add .i64 a b = some (.int .i64 c) := by unfold ibin; rw [hc, w64 h0 h1]
theorem wsub {a b c : Int} (hc : a - b = c) (h0 : -9223372036854775808 ≤ c) (h1 : c ≤ 9223372036854775807) : ibin .sub .i64 a b = some (.int .i64 c) := by unfold ibin; rw [hc, w64 h0 h1]
theorem br {xt yt : TypeId} {x y : Operand} {k : IntKind} {a b : Int} (hx : ev n e x = some (.int k a)) (hy : ev n e y = some (.int k b)) (hb : b ≠ 0) : Y P n e ⟨d, .binOp .rem xt x y yt, ty, ps, af, g⟩ w (.int k (a.tmod b)) w := fun c hc => by
 simp [execOp, hc.eval hx, hc.eval hy, eqGuard, binOp, Op.intDiv, hb]
theorem nt {xt : TypeId} {x : Operand} {b : Bool} (hx : ev n e x = some (.bool b)) : Y P n e ⟨d, .unOp .not xt x, ty, ps, af, g⟩ w (.bool (!b)) w := fun a ha => by
 simp [execOp, ha.eval hx, Op.unary]
theorem bc {op : BinOp} {xt yt : TypeId} {x y : Operand} {a b v : Value} (hx : ev n e x = some a) (hy : ev n e y = some b) (hr : (do eqGuard op xt x y a b; binOp op xt a b : Sem Value).run P w = .ok v w) : Y P n e ⟨d, .binOp op xt x y yt, ty, ps, af, g⟩ w v w := fun c hc => by
 simp only [execOp, hc.eval hx, hc.eval hy]
 rw [Sem.run_bind, hr]; rfl
theorem cv {s t : TypeId} {ds : TypeDesc} {x : Operand} {k k' : IntKind} {a : Int} (hs : P.underlying s = some ds) (ht : P.underlying t = some (.int k)) (hx : ev n e x = some (.int k' a)) : Y P n e ⟨d, .convert s t x, ty, ps, af, g⟩ w (.int k (k.wrap a)) w := fun c hc => by
 simp [execOp, hc.eval hx, convert, run_underlying hs, run_underlying ht, Conv.intToInt]
theorem cvw {s t : TypeId} {ds : TypeDesc} {x : Operand} {k k' : IntKind} {a c : Int} (hs : P.underlying s = some ds) (ht : P.underlying t = some (.int k)) (hx : ev n e x = some (.int k' a)) (hw : k.wrap a = c) : Y P n e ⟨d, .convert s t x, ty, ps, af, g⟩ w (.int k c) w := hw ▸ cv hs ht hx
theorem brw {xt yt : TypeId} {x y : Operand} {k : IntKind} {a b c : Int} (hx : ev n e x = some (.int k a)) (hy : ev n e y = some (.int k b)) (hb : b ≠ 0) (hr : a.tmod b = c) : Y P n e ⟨d, .binOp .rem xt x y yt, ty, ps, af, g⟩ w (.int k c) w := hr ▸ br hx hy hb
theorem nc {x : Operand} {v : Value} (hx : ev n e x = some v) (hv : (match v with | .pointer none => true | .nilIface => true | .nilFunc => true | .func (.method _) _ _ => true | _ => false) = false) : Y P n e ⟨d, .nilCheck x, ty, ps, af, g⟩ w v w := fun a ha => by
 simp only [execOp, ha.eval hx]
 split <;> first | (cases hv; done) | rfl
theorem ln {ats : Array TypeId} {t el : TypeId} {x : Operand} {p : Option Addr} {m c : Nat} (ht : P.underlying t = some (.slice el)) (h0 : ats = #[t]) (hx : ev n e x = some (.slice p m c)) : Y P n e ⟨d, .call ⟨.builtin .len, #[x], ats⟩, ty, ps, af, g⟩ w (.int .i64 m) w := fun a ha => by
 subst h0
 simp [execOp, resolve, invoke, builtin, Builtin.len_, ha.eval hx, run_underlying ht, goInt]
theorem ia {t el : TypeId} {x i : Operand} {b o m c sz : Nat} {k : IntKind} {j : Int} (ht : P.underlying t = some (.slice el)) (hs : (P.info? el).map (·.size) = some sz) (hx : ev n e x = some (.slice (some ⟨b, o, none⟩) m c)) (hi : ev n e i = some (.int k j)) (h0 : 0 ≤ j) (h1 : j < m) : Y P n e ⟨d, .indexAddr t x i, ty, ps, af, g⟩ w (.pointer (some ⟨b, o + j.toNat * sz, none⟩)) w := fun a ha => by
 cases hq : P.info? el with
 | none => rw [hq] at hs; cases hs
 | some inf =>
  rw [hq] at hs
  have hs' : inf.size = sz := by simpa using hs
  simp [execOp, ha.eval hx, ha.eval hi, Instr.indexAt, asIntOf, run_underlying ht, h0, h1, sizeOf, typeInfo, hq, hs', addr_add]
theorem ca {f : FuncId} {as : Array Operand} {ats : Array TypeId} {vs : List Value} (en : Ents P f) (ha : evs n e as.toList = some vs) : Ca P n e ⟨d, .call ⟨.value (.func f), as, ats⟩, ty, ps, af, g⟩ w f vs.toArray := fun a hf => by
 have h1 : as.map a.eval = vs.toArray := hf.evalA ha
 simp [execOp, resolve, Deferred.ofValue, Act.eval, invoke, h1, en vs.toArray w]
def F (P : Program) (n : Nat) (e : Tm) (o : Oper) (w : World) (Φ : Value → World → Prop) : Prop := ∃ v w', (Y P n e o w v w' ∨ (U P n e o w w' ∧ v = undef)) ∧ Φ v w'
theorem sf {o : Oper} {Φ : Value → World → Prop} (f : F P n e o w Φ) (k : ∀ v w', Φ v w' → X P n ops l K (Tm.put e o.dst v) w') (hg : o.guard = none := by rfl) : X P n ops (o :: l) K e w := by
 obtain ⟨v, w', h | ⟨h, rfl⟩, hp⟩ := f
 ·exact st h (k v w' hp) hg
 ·exact su h (k _ w' hp) hg
theorem ff {o : Oper} {Φ : Value → World → Prop} (f : F P n e o w Φ) (k : ∀ v w', Φ v w' → S w' ∧ XS P n ops S ls K (Tm.put e o.dst v) w') (hg : o.guard = none := by rfl) : XS P n ops S ((o, false) :: ls) K e w := by
 obtain ⟨v, w', h | ⟨h, rfl⟩, hp⟩ := f
 ·exact ef h (k v w' hp).1 (k v w' hp).2 hg
 ·exact eu h (k _ w' hp).1 (k _ w' hp).2 hg
theorem SH.alloc {cs : List Value} {t : TypeId} (h : SH B w L) : SH B (w.alloc (.cells cs.toArray t)) (bl w.heap.size cs t :: L) :=
 h.new (Kp.alloc _ w _) (O := fun k => k = w.heap.size) (R := fun _ => False) ⟨heap_alloc_new w _, fun _ => Iff.rfl, fun _ h => h⟩ (fun k hk => by omega) (fun _ h => h.elim)
theorem al {t : TypeId} {cs : List Value} (h : SH B w L) (hz : zc P t = some cs) : F P n e ⟨d, .alloc t, ty, ps, af, g⟩ w fun v w' => ∃ b, v = .pointer (some ⟨b, 0, none⟩) ∧ SH B w' (bl b cs t :: L) := by
 unfold zc at hz
 cases hi : P.info? t with
 | none => rw [hi] at hz; cases hz
 | some i =>
  rw [hi] at hz
  dsimp only at hz
  cases hv : i.zero with
  | none => rw [hv] at hz; cases hz
  | some v =>
   rw [hv] at hz
   simp only [Option.map_some, Option.some.injEq] at hz
   have hz' : v.cells = cs.toArray := by rw [← hz]
   refine ⟨.pointer (some ⟨w.heap.size, 0, none⟩), _, .inl fun a ha => ?_, _, rfl, h.alloc⟩
   simp [execOp, Instr.alloc, zeroValue, typeInfo, hi, hv, newVar, newRow, hz']
theorem bx {t : TypeId} {x : Operand} {v : Value} {cs : List Value} (h : SH B w L) (hx : ev n e x = some v) (hc : v.cells = cs.toArray) : F P n e ⟨d, .box t x, ty, ps, af, g⟩ w fun v w' => ∃ b, v = .pointer (some ⟨b, 0, none⟩) ∧ SH B w' (bl b cs t :: L) := by
 refine ⟨.pointer (some ⟨w.heap.size, 0, none⟩), _, .inl fun a ha => ?_, _, rfl, h.alloc⟩
 simp [execOp, ha.eval hx, Instr.box, newVar, newRow, hc]
theorem SH.write {b : Nat} {cs cs' : List Value} {t : TypeId} (h : SH B w L) (u : Upd L L' (bl b cs t) (bl b cs' t)) : SH B (w.setRow b cs'.toArray) L' :=
 h.step u fun O R hA => ⟨O, R, ⟨setRow_heap _ _ _ _ _ _ hA.1, hA.2⟩, ⟨⟨rfl, rfl, rfl⟩, by simp [World.setRow], fun k hk hn => setRow_other _ _ _ _ fun e => hn ((hA.2.1 k).2 e)⟩, fun k hk => .inl hk, fun k hk => .inr (.inl hk)⟩
theorem so {t u : TypeId} {x y : Operand} {b o : Nat} {v : Value} {cs cs' vs : List Value} (h : SH B w L) (hx : ev n e x = some (.pointer (some ⟨b, o, none⟩))) (hy : ev n e y = some v) (hv : v.cells = vs.toArray) (hT : (P.info? t).map (·.size) = some vs.length) (h1 : vs.all Value.oneCell' = true)
  (sp : Spl o cs vs cs') (up : Upd L L' (bl b cs u) (bl b cs' u)) : F P n e ⟨d, .store t x y, ty, ps, af, g⟩ w fun _ w' => SH B w' L' := by
 obtain ⟨m, m0, m1, _⟩ := up.ix
 obtain ⟨hs, O, R, g1, g2⟩ := h
 have hb := (g1 m _ m1).1
 have h : SH B w L := ⟨hs, O, R, g1, g2⟩
 obtain ⟨e1, e2⟩ := sp.eq
 refine ⟨undef, _, .inr ⟨fun a ha => ?_, rfl⟩, h.write up⟩
 cases hq : P.info? t with
 | none => rw [hq] at hT; cases hT
 | some i =>
  rw [hq] at hT
  have h4 : i.size = vs.length := by simpa using hT
  have h5 : v.cells.size = vs.length := by rw [hv]; simp
  have h6 := run_storeCells_at P b o u vs 0 cs.toArray w hb (by simpa using e2) (fun v hv => List.all_eq_true.1 h1 v hv)
  simp only [Nat.add_zero] at h6
  have h7 : v.cells.toList = vs := by rw [hv]
  simp [execOp, ha.eval hx, ha.eval hy, Instr.storeAt, Instr.sureAddr, storeVar, sizeOf, typeInfo, hq, h4, h5, h7, h6, e1]
theorem pT {c a b : Operand} {f : Bool} {v : Value} (hc : ev n e c = some (.bool f)) (hf : f = true) (ha : ev n e a = some v) : Y P n e ⟨d, .pick c a b, ty, ps, af, g⟩ w v w := fun s hs => by
 simp [execOp, hs.eval hc, hs.eval ha, hf, asBool]
theorem pF {c a b : Operand} {f : Bool} {v : Value} (hc : ev n e c = some (.bool f)) (hf : f = false) (hb : ev n e b = some v) : Y P n e ⟨d, .pick c a b, ty, ps, af, g⟩ w v w := fun s hs => by
 simp [execOp, hs.eval hc, hs.eval hb, hf, asBool]
end Go.E
end
