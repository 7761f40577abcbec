/- Parts of a proof: E5, Tp, Ma, Ty. -/
import Derived.Test.YtjlgchdekhmnnaaGreatDoorTC03
import Derived.Laws.Cover3
import Derived.Laws.Slices
import Derived.Laws.StructEq
import Derived.Test.YtjlgchdekhmnnaaGreatDoorM37
import Derived.Test.YtjlgchdekhmnnaaGreatDoorProg
set_option linter.unusedVariables false
set_option linter.unusedSimpArgs false
section
namespace Go.E
variable {P : Program} {n : Nat} {K : Post} {e : Tm} {w : World} {ops : Array Oper} {l : List Oper} {S : World → Prop} {ls : List (Oper × Bool)} {B : World} {L L' : List As}
variable {d : Option Tmp} {ty : TypeId} {ps : String} {af : Array Edge} {g : Option (Nat × Bool)}
theorem bnl {xt yt el : TypeId} {x y : Operand} {p : Option Addr} {m c : Nat} (ht : P.underlying xt = some (.slice el)) (hx : ev n e x = some (.slice p m c)) (hy : ev n e y = some (.slice none 0 0)) : Y P n e ⟨d, .binOp .eql xt x y yt, ty, ps, af, g⟩ w (.bool p.isNone) w :=
 bc hx hy (by
  have h := run_equal_slice_nil (P := P) (w := w) xt el p m c ht
  simp [eqGuard, binOp, h])
theorem SH.fz {el : TypeId} {sz m : Nat} {v : Value} {xs : List Value} (h : SH B w (osl el sz v m xs :: L)) : SH B w (rsl sz v m xs :: L) := h.wk fun O R hA => by
 refine ⟨fun _ => False, O, ⟨⟨hA.1.1, ?_⟩, fun _ h => h, hA.2.1⟩, fun _ h => h.elim, fun k hk => .inl hk⟩
 rcases hA.1.2 with hn | ⟨g, cap, cur, rfl, hb, hg, h1, h2, h3⟩
 ·exact .inl hn
 ·refine .inr ⟨g, 0, cap, rfl, (Array.getElem?_eq_some_iff.1 hg).1, h1, h2, fun j u hu => ?_⟩
  have := hA.1.cells (g := g) rfl j u hu
  rw [addr_add] at this; exact this
theorem SH.rz {sz m c : Nat} {p : Option Addr} {xs : List Value} (h : SH B w L) (m' : At L (rsl sz (.slice p m c) m xs)) (hp : p.isNone = true) : m = 0 := by
 obtain ⟨_, _, h1⟩ := h.at_ m'
 rcases h1.1.2 with ⟨_, h3⟩ | ⟨b, o, cap, h2, _⟩
 ·exact h3
 ·injection h2 with h2; rw [h2] at hp; cases hp
theorem SH.rp {sz m c : Nat} {p : Option Addr} {xs : List Value} (h : SH B w L) (m' : At L (rsl sz (.slice p m c) m xs)) (hp : p.isNone = false) : ∃ b o, p = some ⟨b, o, none⟩ := by
 obtain ⟨_, _, h1⟩ := h.at_ m'
 rcases h1.1.2 with ⟨h2, _⟩ | ⟨b, o, cap, h2, _⟩
 ·injection h2 with h2; rw [h2] at hp; cases hp
 ·injection h2 with h2; exact ⟨b, o, h2⟩
theorem SH.du {sz m : Nat} {v : Value} {xs : List Value} (h : SH B w L) (m' : At L (rsl sz v m xs)) : SH B w (rsl sz v m xs :: L) := h.dup m' fun O R hA => ⟨R, ⟨hA.1, fun _ h => h, hA.2.2⟩, fun _ h => h⟩
theorem slh {t el : TypeId} {x i : Operand} {p : Option Addr} {m c k sz : Nat} {q : IntKind} (ht : P.underlying t = some (.slice el)) (hs : (P.info? el).map (·.size) = some sz) (hx : ev n e x = some (.slice p m c)) (hi : ev n e i = some (.int q (k : Nat))) (hk : k ≤ c) : Y P n e ⟨d, .slice t x none (some i) none, ty, ps, af, g⟩ w (.slice p k c) w := fun a ha => by
 have h1 := run_sliceBound (P := P) w q (k : Int) c .sliceAcap (by omega) (by omega)
 cases hq : P.info? el with
 | none => rw [hq] at hs; cases hs
 | some inf =>
  cases p with
  | none => simp [execOp, ha.eval hx, ha.eval hi, Instr.sliceAt, run_underlying ht, Instr.slice, Instr.sliceBounds, h1, sizeOf, typeInfo, hq]
  | some ad =>
   have h2 : ad.add 0 = ad := rfl
   simp [execOp, ha.eval hx, ha.eval hi, Instr.sliceAt, run_underlying ht, Instr.slice, Instr.sliceBounds, h1, sizeOf, typeInfo, hq, h2]
theorem SH.cut {sz m c k : Nat} {p : Option Addr} {xs : List Value} (h : SH B w L) (m' : At L (rsl sz (.slice p m c) m xs)) (hk : k ≤ m) : SH B w (rsl sz (.slice p k c) k (xs.take (k * sz)) :: L) := h.dup m' fun O R hA => by
 refine ⟨fun j => Value.ownBlock (.slice p k c) = some j, ⟨⟨?_, ?_⟩, fun _ h => h, fun _ => Iff.rfl⟩, fun j hj => (hA.2.2 j).2 ?_⟩
 ·rw [List.length_take, hA.1.1]; exact Nat.min_eq_left (Nat.mul_le_mul_right _ hk)
 ·rcases hA.1.2 with ⟨h1, h2⟩ | ⟨b, o, cap, h1, hb, h2, h3, h4⟩
  ·injection h1 with h1 h5 h6; subst h1 h6; exact .inl ⟨by rw [show k = 0 by omega], by omega⟩
  ·injection h1 with h1 h5 h6; subst h1 h6
   refine .inr ⟨b, o, c, rfl, hb, by omega, h3, fun j u hu => h4 j u ?_⟩
   rw [List.getElem?_take] at hu
   split at hu
   ·exact hu
   ·cases hu
 ·cases p with
  | none => cases hj
  | some a => exact hj
inductive EK where
 | b
 | i (k : IntKind)
 | s
 deriving DecidableEq
def ekF (f : TypeId → Option (List EK)) (P : Program) : List Field → Nat → Option (List EK)
 | [], _ => some []
 | x :: r, o => match f x.type, P.underlying x.type, (P.info? x.type).map (·.size), ekF f P r (o + ((f x.type).getD []).length) with
  | some a, some d, some z, some c => bif (x.name != "_") && Nat.beq x.offset o && Nat.beq z a.length && (isRow d || Nat.beq a.length 1) then some (a ++ c) else none
  | _, _, _, _ => none
def ek (P : Program) : Nat → TypeId → Option (List EK)
 | 0, _ => none
 | d + 1, t => match P.underlying t with
  | some .bool => some [.b]
  | some (.int k) => some [.i k]
  | some .string => some [.s]
  | some (.struct fs) => bif P.stoodInHeld t then none else ekF (ek P d) P fs.toList 0
  | _ => none
def conf : EK → Value → Bool
 | .b, .bool _ => true
 | .i k, .int k' _ => k == k'
 | .s, .string _ => true
 | _, _ => false
def confs : List EK → List Value → Bool
 | [], [] => true
 | k :: ks, v :: vs => conf k v && confs ks vs
 | _, _ => false
def veq : Value → Value → Bool
 | .bool a, .bool b => a == b
 | .int _ a, .int _ b => a == b
 | .string a, .string b => a.toList == b.toList
 | _, _ => false
def aeq : List Value → List Value → Bool
 | [], [] => true
 | a :: l, b :: m => veq a b && aeq l m
 | _, _ => false
theorem confs_len : ∀ {ks : List EK} {xs : List Value}, confs ks xs = true → xs.length = ks.length
 | [], [], _ => rfl
 | k :: ks, v :: vs, h => by
  simp only [confs, Bool.and_eq_true] at h
  simp [confs_len h.2]
 | [], v :: vs, h => by cases h
 | k :: ks, [], h => by cases h
theorem confs1 {k : EK} {xs : List Value} (h : confs [k] xs = true) : ∃ v, xs = [v] ∧ conf k v = true := by
 cases xs with
 | nil => cases h
 | cons v r => cases r with
  | nil => exact ⟨v, rfl, by simpa [confs] using h⟩
  | cons _ _ => simp [confs] at h
theorem confs_app : ∀ {a c : List EK} {xs : List Value}, confs (a ++ c) xs = true → confs a (xs.take a.length) = true ∧ confs c (xs.drop a.length) = true
 | [], c, xs, h => by simpa [confs] using h
 | k :: a, c, [], h => by cases h
 | k :: a, c, v :: vs, h => by
  simp only [List.cons_append, confs, Bool.and_eq_true] at h
  obtain ⟨h1, h2⟩ := confs_app h.2
  simp [confs, h.1, h1, h2]
theorem aeq_app : ∀ (a b c d : List Value), a.length = b.length → aeq (a ++ c) (b ++ d) = (aeq a b && aeq c d)
 | [], [], c, d, _ => by simp [aeq]
 | x :: a, y :: b, c, d, h => by
  have := aeq_app a b c d (by simpa using h)
  simp [aeq, this, Bool.and_assoc]
 | [], y :: b, c, d, h => by simp at h
 | x :: a, [], c, d, h => by simp at h
theorem part_run {t : TypeId} {dd : TypeDesc} {z o : Nat} {cs : List Value} (hu : P.underlying t = some dd) (hz : (P.info? t).map (·.size) = some z) (hr : isRow dd = true) : (part t cs.toArray o).run P w = .ok (.agg ((cs.drop o).take z).toArray) w := by
 have hg := isAgg_run (w := w) hu
 rw [hr] at hg
 cases hq : P.info? t with
 | none => rw [hq] at hz; cases hz
 | some i =>
  rw [hq] at hz
  have h1 : i.size = z := by simpa using hz
  have hx2 : cs.toArray.extract o (o + z) = ((cs.drop o).take z).toArray := by
   rw [List.extract_toArray, List.extract_eq_take_drop]; simp
  simp [part, hg, sizeOf, typeInfo, hq, h1, hx2]
theorem part_run1 {t : TypeId} {dd : TypeDesc} {o : Nat} {cs : List Value} {v : Value} (hu : P.underlying t = some dd) (hr : isRow dd = false) (hv : cs[o]? = some v) : (part t cs.toArray o).run P w = .ok v w := by
 have hg := isAgg_run (w := w) hu
 rw [hr] at hg
 simp [part, hg, hv]
def leafy (dd : TypeDesc) (xs : List Value) : Value := if isRow dd then .agg xs.toArray else xs.getD 0 undef
theorem ek_run : ∀ (d : Nat) (t : TypeId) (ks : List EK) (dd : TypeDesc) (xs ys : List Value), ek P d t = some ks → P.underlying t = some dd → confs ks xs = true → confs ks ys = true → (Op.equalIn d t (leafy dd xs) (leafy dd ys)).run P w = .ok (aeq xs ys) w := by
 intro d
 induction d with
 | zero => intro t ks dd xs ys h; cases h
 | succ d ih =>
  intro t ks dd xs ys h hu hx hy
  unfold ek at h
  rw [hu] at h
  cases dd <;> try (cases h; done)
  case bool =>
   simp only [Option.some.injEq] at h; subst h
   match xs, ys, hx, hy with
   | [.bool a], [.bool b], _, _ => simp [leafy, isRow, aeq, veq, run_equalIn_bool' w d t a b hu]
  case int k =>
   simp only [Option.some.injEq] at h; subst h
   obtain ⟨v, rfl, hv⟩ := confs1 hx
   obtain ⟨u, rfl, hv2⟩ := confs1 hy
   cases v <;> try (simp [conf] at hv; done)
   cases u <;> try (simp [conf] at hv2; done)
   rename_i k1 a k2 b
   simp only [conf, beq_iff_eq] at hv hv2
   subst hv hv2
   simp [leafy, isRow, aeq, veq, run_equalIn_int w d t k k a b hu]
  case string =>
   simp only [Option.some.injEq] at h; subst h
   match xs, ys, hx, hy with
   | [.string a], [.string b], _, _ => simp [leafy, isRow, aeq, veq, run_equalIn_string w d t a b hu]
  case struct fs =>
   dsimp only at h
   cases hp : P.stoodInHeld t with
   | true => rw [hp] at h; cases h
   | false =>
    rw [hp] at h
    simp only [cond_false] at h
    have hf : P.fieldsOf t = fs := by simp [Program.fieldsOf, hu]
    have hS : P.underlying t = some (.struct (P.fieldsOf t)) := by rw [hf]; exact hu
    have e1 : leafy (.struct fs) xs = .agg xs.toArray := rfl
    have e2 : leafy (.struct fs) ys = .agg ys.toArray := rfl
    rw [e1, e2, run_equalIn_agg w d t _ _ hS hp, hf]
    have key : ∀ (fl : List Field) (o : Nat) (ks : List EK), ekF (ek P d) P fl o = some ks → confs ks (xs.drop o) = true → confs ks (ys.drop o) = true → (Op.eqFields d xs.toArray ys.toArray fl).run P w = .ok (aeq (xs.drop o) (ys.drop o)) w := by
     intro fl
     induction fl with
     | nil =>
      intro o ks h1 h2 h3
      simp only [ekF, Option.some.injEq] at h1
      subst h1
      have l2 := confs_len h2
      have l3 := confs_len h3
      rw [List.eq_nil_of_length_eq_zero l2, List.eq_nil_of_length_eq_zero l3]
      rfl
     | cons x fl ihf =>
      intro o ks h1 h2 h3
      unfold ekF at h1
      cases g1 : ek P d x.type with
      | none => rw [g1] at h1; cases h1
      | some a =>
       cases g2 : P.underlying x.type with
       | none => rw [g1, g2] at h1; cases h1
       | some dx =>
        cases g3 : (P.info? x.type).map (·.size) with
        | none => rw [g1, g2, g3] at h1; cases h1
        | some z =>
         rw [g1, g2, g3] at h1
         simp only [Option.getD_some] at h1
         cases g4 : ekF (ek P d) P fl (o + a.length) with
         | none => rw [g4] at h1; cases h1
         | some c =>
          rw [g4] at h1
          dsimp only at h1
          cases g5 : ((x.name != "_") && Nat.beq x.offset o && Nat.beq z a.length && (isRow dx || Nat.beq a.length 1)) with
          | false => rw [g5] at h1; cases h1
          | true =>
           rw [g5] at h1
           simp only [cond_true, Option.some.injEq] at h1
           subst h1
           simp only [Bool.and_eq_true, bne_iff_ne, ne_eq] at g5
           obtain ⟨⟨⟨n1, n2⟩, n3⟩, n4⟩ := g5
           have n2 := Nat.eq_of_beq_eq_true n2
           have n3 := Nat.eq_of_beq_eq_true n3
           obtain ⟨c1, c2⟩ := confs_app h2
           obtain ⟨c3, c4⟩ := confs_app h3
           rw [List.drop_drop] at c2 c4
           have r := ih x.type a dx _ _ g1 g2 c1 c3
           have rest := ihf (o + a.length) c g4 c2 c4
           have px : (part x.type xs.toArray x.offset).run P w = .ok (leafy dx ((xs.drop o).take a.length)) w := by
            rw [n2]
            cases hr : isRow dx with
            | true => rw [part_run g2 g3 hr, n3]; simp [leafy, hr]
            | false =>
             rw [hr] at n4
             have n4 : a.length = 1 := Nat.eq_of_beq_eq_true (by simpa using n4)
             have l1 := confs_len c1
             rw [n4] at l1 ⊢
             have hv : xs[o]? = some (((xs.drop o).take 1).getD 0 undef) := by
              cases hd : xs.drop o with
              | nil => rw [hd] at l1; cases l1
              | cons v r =>
               have : (xs.drop o)[0]? = some v := by rw [hd]; rfl
               rw [List.getElem?_drop, Nat.add_zero] at this
               rw [this]; rfl
             rw [part_run1 g2 hr hv]; simp [leafy, hr]
           have py : (part x.type ys.toArray x.offset).run P w = .ok (leafy dx ((ys.drop o).take a.length)) w := by
            rw [n2]
            cases hr : isRow dx with
            | true => rw [part_run g2 g3 hr, n3]; simp [leafy, hr]
            | false =>
             rw [hr] at n4
             have n4 : a.length = 1 := Nat.eq_of_beq_eq_true (by simpa using n4)
             have l1 := confs_len c3
             rw [n4] at l1 ⊢
             have hv : ys[o]? = some (((ys.drop o).take 1).getD 0 undef) := by
              cases hd : ys.drop o with
              | nil => rw [hd] at l1; cases l1
              | cons v r =>
               have : (ys.drop o)[0]? = some v := by rw [hd]; rfl
               rw [List.getElem?_drop, Nat.add_zero] at this
               rw [this]; rfl
             rw [part_run1 g2 hr hv]; simp [leafy, hr]
           have hsplit : aeq (xs.drop o) (ys.drop o) = (aeq ((xs.drop o).take a.length) ((ys.drop o).take a.length) && aeq (xs.drop (o + a.length)) (ys.drop (o + a.length))) := by
            have s1 := (List.take_append_drop a.length (xs.drop o)).symm
            have s2 := (List.take_append_drop a.length (ys.drop o)).symm
            conv => lhs; rw [s1, s2]
            rw [aeq_app _ _ _ _ (by rw [confs_len c1, confs_len c3]), List.drop_drop, List.drop_drop]
           simp only [Op.eqFields, Sem.run_bind]
           rw [if_pos n1]
           rw [Sem.run_bind, px, Result.andThen_ok, Sem.run_bind, py, Result.andThen_ok, Sem.run_bind, r, Result.andThen_ok, hsplit]
           cases aeq ((xs.drop o).take a.length) ((ys.drop o).take a.length) with
           | false => simp
           | true => simpa using rest
    have := key fs.toList 0 ks h (by simpa using hx) (by simpa using hy)
    simpa using this
def eqf (P : Program) (t : TypeId) : Option (List EK) := bif P.eqGuardType P.depth t then none else match P.underlying t with
 | some (.struct _) => ek P 10000 t
 | _ => none
theorem eqf_spec {t : TypeId} {ks : List EK} (h : eqf P t = some ks) : P.eqGuardType P.depth t = false ∧ (∃ fs, P.underlying t = some (.struct fs)) ∧ ek P 10000 t = some ks := by
 unfold eqf at h
 cases hg : P.eqGuardType P.depth t with
 | true => rw [hg] at h; cases h
 | false =>
  rw [hg] at h
  simp only [cond_false] at h
  split at h
  ·rename_i fs hu; exact ⟨rfl, ⟨fs, hu⟩, h⟩
  ·cases h
theorem be_ {xt yt : TypeId} {x y : Operand} {ks : List EK} {xs ys : List Value} (hk : eqf P xt = some ks) (hx : ev n e x = some (.agg xs.toArray)) (hy : ev n e y = some (.agg ys.toArray)) (cx : confs ks xs = true) (cy : confs ks ys = true) : Y P n e ⟨d, .binOp .eql xt x y yt, ty, ps, af, g⟩ w (.bool (aeq xs ys)) w := by
 obtain ⟨h1, ⟨fs, h2⟩, h3⟩ := eqf_spec hk
 have r := ek_run (P := P) (w := w) 10000 xt ks (.struct fs) xs ys h3 h2 cx cy
 refine bc hx hy ?_
 rw [Sem.run_bind, run_eqGuard_agg w _ _ _ _ _ _ h1, Result.andThen_ok, run_eql_struct]
 show Result.andThen ((Op.equalIn 10000 xt (leafy (.struct fs) xs) (leafy (.struct fs) ys)).run P w) _ = _
 rw [r]; rfl
theorem bne_ {xt yt : TypeId} {x y : Operand} {ks : List EK} {xs ys : List Value} (hk : eqf P xt = some ks) (hx : ev n e x = some (.agg xs.toArray)) (hy : ev n e y = some (.agg ys.toArray)) (cx : confs ks xs = true) (cy : confs ks ys = true) : Y P n e ⟨d, .binOp .neq xt x y yt, ty, ps, af, g⟩ w (.bool (!aeq xs ys)) w := by
 obtain ⟨h1, ⟨fs, h2⟩, h3⟩ := eqf_spec hk
 have r := ek_run (P := P) (w := w) 10000 xt ks (.struct fs) xs ys h3 h2 cx cy
 refine bc hx hy ?_
 rw [Sem.run_bind, run_eqGuard_agg w _ _ _ _ _ _ h1, Result.andThen_ok, run_neq_struct]
 show Result.andThen ((Op.equalIn 10000 xt (leafy (.struct fs) xs) (leafy (.struct fs) ys)).run P w) _ = _
 rw [r]; rfl
end Go.E
end
section
namespace Go.Ct
structure Acc where
 kind : Int := 0
 cell : Int := 0
 old : Int := 0
 new : Int := 0
 deriving DecidableEq
structure Ent where
 thread : Int := 0
 acc : Acc := {}
 loaded : Int := 0
 swapped : Bool := false
 deriving DecidableEq
def existsC (n : Nat) (c : Int) : Bool := decide (1 ≤ c) && decide (c ≤ n)
def entryM (cells : List Int) (th : Int) (a : Acc) : Ent × List Int :=
 if existsC cells.length a.cell = false then ({ thread := th, acc := a }, cells)
 else if a.kind = 1 then ({ thread := th, acc := a, loaded := cells.getD (a.cell.toNat - 1) 0 }, cells)
 else if cells.getD (a.cell.toNat - 1) 0 = a.old then ({ thread := th, acc := a, swapped := true }, cells.set (a.cell.toNat - 1) a.new)
 else ({ thread := th, acc := a }, cells)
theorem entryM_len (cells : List Int) (th : Int) (a : Acc) : (entryM cells th a).2.length = cells.length := by
 unfold entryM; split <;> (try split) <;> (try split) <;> simp
def badE (n : Nat) (x : Ent) : Bool := (x.acc.kind != 1 && x.acc.kind != 2) || !existsC n x.acc.cell
def executeF (xs : List Int) : List Ent → Nat → Nat × Int × List Int
 | [], i => (i, 0, xs)
 | x :: l, i => if badE xs.length x = true then (i, 1, xs)
  else if (entryM xs x.thread x.acc).1 ≠ x then (i, 8, (entryM xs x.thread x.acc).2)
  else executeF (entryM xs x.thread x.acc).2 l (i + 1)
theorem executeF_len : ∀ (l : List Ent) (xs : List Int) (i : Nat), (executeF xs l i).2.2.length = xs.length
 | [], xs, i => rfl
 | x :: l, xs, i => by
  unfold executeF; split
  ·rfl
  ·split
   ·exact entryM_len _ _ _
   ·rw [executeF_len l]; exact entryM_len _ _ _
def replayM (xs : List Int) (l : List Ent) : List Int × Int := if (executeF xs l 0).2.1 = 0 then ((executeF xs l 0).2.2, 0) else ([], (executeF xs l 0).2.1)
def whereF (p : Ent → Bool) : List Ent → Nat → List Int
 | [], _ => []
 | x :: l, i => if p x then (i : Int) :: whereF p l (i + 1) else whereF p l (i + 1)
def fitBad (xs : List Int) (x : Ent) : Bool := (x.acc.kind != 1 && x.acc.kind != 2) || decide (x.acc.cell < 1) || decide (x.acc.cell > xs.length)
def fitNot (c : Int) (x : Ent) : Bool := (x.acc.kind == 1 && (x.loaded != c || x.swapped)) || (x.acc.kind == 2 && (x.swapped != (c == x.acc.old) || x.loaded != 0))
def fitNext (xs : List Int) (x : Ent) : List Int := if x.acc.kind = 2 ∧ x.swapped = true then xs.set (x.acc.cell.toNat - 1) x.acc.new else xs
def fitsF (xs : List Int) : List Ent → Nat → Nat × List Int × Int
 | [], i => (i, xs, 0)
 | x :: l, i => if fitBad xs x = true then (i, xs, 1) else if fitNot (xs.getD (x.acc.cell.toNat - 1) 0) x = true then (i, xs, 8) else fitsF (fitNext xs x) l (i + 1)
theorem fits_execute : ∀ (l : List Ent) (xs : List Int) (i : Nat), (fitsF xs l i).1 = (executeF xs l i).1 ∧ (fitsF xs l i).2.2 = (executeF xs l i).2.1 ∧ ((fitsF xs l i).2.2 = 0 → (fitsF xs l i).2.1 = (executeF xs l i).2.2)
 | [], xs, i => ⟨rfl, rfl, fun _ => rfl⟩
 | x :: l, xs, i => by
  have hb : fitBad xs x = badE xs.length x := by
   unfold fitBad badE existsC
   rw [Bool.eq_iff_iff]
   simp
   omega
  unfold fitsF executeF
  rw [hb]
  cases hq : badE xs.length x with
  | true => simp
  | false =>
   have hq' := hq
   unfold badE existsC at hq'
   simp at hq'
   obtain ⟨hk, h1, h2⟩ := hq'
   have hex : existsC xs.length x.acc.cell = true := by unfold existsC; simp; omega
   have hkk : x.acc.kind = 1 ∨ x.acc.kind = 2 := by
    by_cases h : x.acc.kind = 1
    ·exact .inl h
    ·exact .inr (hk h)
   simp only [Bool.false_eq_true, if_false]
   have key : fitNot (xs.getD (x.acc.cell.toNat - 1) 0) x = true ↔ (entryM xs x.thread x.acc).1 ≠ x := by
    obtain ⟨th, ac, ld, sw⟩ := x
    dsimp only at *
    unfold fitNot entryM
    rw [hex]
    generalize xs.getD (ac.cell.toNat - 1) 0 = c at *
    rcases hkk with h | h
    ·simp [h]
     cases sw <;> simp <;> omega
    ·by_cases hc : c = ac.old
     ·simp [h, hc]; cases sw <;> simp <;> omega
     ·simp [h, hc]; cases sw <;> simp <;> omega
   by_cases hn : (entryM xs x.thread x.acc).1 ≠ x
   ·rw [if_pos (key.2 hn), if_pos hn]; simp
   ·rw [if_neg (fun h => hn (key.1 h)), if_neg hn]
    have hx : (entryM xs x.thread x.acc).1 = x := Classical.byContradiction hn
    have hnext : fitNext xs x = (entryM xs x.thread x.acc).2 := by
     obtain ⟨th, ac, ld, sw⟩ := x
     dsimp only at *
     unfold fitNext
     unfold entryM at hx ⊢
     rw [hex] at hx ⊢
     generalize hcc : xs.getD (ac.cell.toNat - 1) 0 = c at *
     rcases hkk with h | h
     ·simp [h]
     ·by_cases hc : c = ac.old
      ·have hs : sw = true := by
        have := congrArg Ent.swapped hx
        simpa [h, hc] using this.symm
       simp [h, hc, hs]
      ·have hs : sw = false := by
        have := congrArg Ent.swapped hx
        simpa [h, hc] using this.symm
       simp [h, hc, hs]
    rw [hnext]
    exact fits_execute l _ _
end Go.Ct
namespace Go.Ct
theorem drop_get {α : Type} {l : List α} {k : Nat} (h : k < l.length) (d : α) : l.drop k = l.getD k d :: l.drop (k + 1) := by
 rw [List.getD_eq_getElem?_getD, List.getElem?_eq_getElem h]; exact List.drop_eq_getElem_cons h
theorem ex_end {xs : List Int} {l : List Ent} {k : Nat} (h : l.length ≤ k) : executeF xs (l.drop k) k = (k, 0, xs) := by rw [List.drop_eq_nil_of_le h]; rfl
theorem ex_bad {xs : List Int} {l : List Ent} {k : Nat} (h : k < l.length) (hb : badE xs.length (l.getD k {}) = true) : executeF xs (l.drop k) k = (k, 1, xs) := by
 rw [drop_get h {}]; unfold executeF; rw [if_pos hb]
theorem ex_neq {xs : List Int} {l : List Ent} {k : Nat} (h : k < l.length) (hb : badE xs.length (l.getD k {}) = false) (hn : (entryM xs (l.getD k {}).thread (l.getD k {}).acc).1 ≠ l.getD k {}) : executeF xs (l.drop k) k = (k, 8, (entryM xs (l.getD k {}).thread (l.getD k {}).acc).2) := by
 rw [drop_get h {}]; unfold executeF; rw [if_neg (by rw [hb]; decide), if_pos hn]
theorem ex_step {xs : List Int} {l : List Ent} {k : Nat} (h : k < l.length) (hb : badE xs.length (l.getD k {}) = false) (hn : (entryM xs (l.getD k {}).thread (l.getD k {}).acc).1 = l.getD k {}) : executeF xs (l.drop k) k = executeF (entryM xs (l.getD k {}).thread (l.getD k {}).acc).2 (l.drop (k + 1)) (k + 1) := by
 rw [drop_get h {}]; conv => lhs; unfold executeF
 rw [if_neg (by rw [hb]; decide), if_neg (fun c => c hn)]
def picked (p : Ent → Bool) (l : List Ent) : List Ent := (whereF p l 0).map fun i => l.getD i.toNat {}
end Go.Ct
namespace Go.Ct
end Go.Ct
end
section
open Go Go.RowKit Go.E
namespace Go.Proofs.YtjlgchdekhmnnaaGreatDoor
theorem Own.lt {X : Nat → Prop} {g : Ghost} {w : World} {m : MFix} {role : Nat → Option Role} {vth vpk vhi : Value} {ov : Nat → Value} {tb : Nat → Nat} {pk : List Int} {M : Ct.Mach} (h : MachX X g w m role vth vpk vhi ov tb pk M) {k : Nat} (ho : Own g role k) : g.N k ∧ k < w.heap.size := by
 rcases ho with h2 | h2
 ·exact ⟨h.arena.foot k h2, h.arena.nlt k (h.arena.foot k h2)⟩
 ·obtain ⟨r, hr⟩ := Option.ne_none_iff_exists'.1 h2
  have := h.body.rN k r hr
  exact ⟨this.1, this.2.2⟩
theorem MachX.other {X F : Nat → Prop} {g : Ghost} {w w' : World} {m : MFix} {role : Nat → Option Role} {vth vpk vhi : Value} {ov : Nat → Value} {tb : Nat → Nat} {pk : List Int} {M : Ct.Mach} (h : MachX X g w m role vth vpk vhi ov tb pk M) (hk : Keep F w w') (hF : ∀ k, F k → (g.N k ∧ ¬ Own g role k) ∨ w.heap.size ≤ k) :
  MachX X (g.withN fun k => g.N k ∨ (w.heap.size ≤ k ∧ k < w'.heap.size)) w' m role vth vpk vhi ov tb pk M := by
 have hb := h.body
 have hFN : ∀ k, F k → g.N k ∨ w.heap.size ≤ k := fun k hf => (hF k hf).imp And.left id
 have nO : ∀ k, Own g role k → ¬ F k := fun k ho hf => by
  rcases hF k hf with h1 | h1
  ·exact h1.2 ho
  ·have := (Own.lt h ho).2; omega
 have ne : ∀ k r, role k = some r → ¬ F k := fun k r hr => nO k (.inr (by rw [hr]; simp))
 have hN : ∀ k, (g.N k ∨ (w.heap.size ≤ k ∧ k < w'.heap.size)) → g.N k ∨ w.heap.size ≤ k := fun k hk => hk.imp id And.left
 have hO : ∀ k, g.N k → (g.N k ∨ (w.heap.size ≤ k ∧ k < w'.heap.size)) := fun _ h => .inl h
 have hL : ∀ k, (g.N k ∨ (w.heap.size ≤ k ∧ k < w'.heap.size)) → k < w'.heap.size := fun k hx => hx.elim (fun h1 => Nat.lt_of_lt_of_le (h.arena.nlt k h1) hk.size) And.right
 refine ⟨h.arena.keep hk (fun k hf hg => nO k (.inl hg) hf) hFN hN hO hL, h.tab.keep hk ⟨ne _ _ hb.rhb, ne _ _ hb.rm1, ne _ _ hb.rm2, ne _ _ hb.rm3⟩ rfl hO (fun _ h => .inl h), ⟨?_, ?_, ?_, ?_, fun i t ht => (hb.ops i t ht).keep hk hFN hN, fun i t c hx ht hc => ?_, hb.rmb, hb.rhb, hb.rm1, hb.rm2, hb.rm3, hb.rth, hb.rhi, hb.rpk, fun k r hr => ?_⟩, h.msk⟩
 ·rw [hk.block _ (hb.rN _ _ hb.rmb).2.2 (ne _ _ hb.rmb)]; exact hb.blk
 ·exact ownsRow_keep hb.ths hk (fun k hv => ne k _ (hb.rth k hv))
 ·exact ownsRow_keep hb.hist hk (fun k hv => ne k _ (hb.rhi k hv))
 ·exact ownsRow_keep hb.picks hk (fun k hv => ne k _ (hb.rpk k hv))
 ·obtain ⟨⟨n, O, h1, h2, h4⟩, h3⟩ := hb.task i t c hx ht hc
  exact ⟨⟨n, O, h1.mv hk (ne _ _ h3) hFN (fun k hf => .inl (fun ho => ne _ _ (h4 k ho) hf)) rfl hN hO (fun _ h => .inl h), h2, h4⟩, h3⟩
 ·have := hb.rN k r hr
  exact ⟨hO k this.1, this.2.1, Nat.lt_of_lt_of_le this.2.2 hk.size⟩
def machA (m : MFix) (pk : List Int) (M : Ct.Mach) : As where
 p w O R := ∃ g role vth vpk vhi ov tb, MachX (fun _ => False) g w m role vth vpk vhi ov tb pk M ∧ (∀ k, O k ↔ Own g role k) ∧ ∀ k, R k ↔ k < w.heap.size ∧ ¬ g.N k
 loc {w w' O R} h hz hk := by
  obtain ⟨g, role, vth, vpk, vhi, ov, tb, h1, h2, h3⟩ := h
  refine ⟨_, role, vth, vpk, vhi, ov, tb, h1.other (F := fun k => ¬ (O k ∨ R k)) ⟨hz.1, hz.2.1, hz.2.2.1, hz.2.2.2, fun k _ hn => hk k (Classical.not_not.1 hn)⟩ (fun k hf => ?_), h2, fun k => ?_⟩
  ·by_cases hl : k < w.heap.size
   ·exact .inl ⟨Classical.byContradiction fun hn => hf (.inr ((h3 k).2 ⟨hl, hn⟩)), fun ho => hf (.inl ((h2 k).2 ho))⟩
   ·exact .inr (by omega)
  ·rw [h3]
   show _ ↔ k < w'.heap.size ∧ ¬ (g.N k ∨ (w.heap.size ≤ k ∧ k < w'.heap.size))
   have := hz.2.2.2
   constructor
   ·rintro ⟨a, b⟩
    exact ⟨by omega, fun hc => hc.elim b (fun hc => by omega)⟩
   ·rintro ⟨a, b⟩
    exact ⟨Classical.byContradiction fun hc => b (.inr ⟨by omega, a⟩), fun hc => b (.inl hc)⟩
 dom {w O R k} h hk := by
  obtain ⟨g, role, vth, vpk, vhi, ov, tb, h1, h2, h3⟩ := h
  exact hk.elim (fun ho => (Own.lt h1 ((h2 k).1 ho)).2) (fun hr => ((h3 k).1 hr).1)
 dis {w O R k} h ho hr := by
  obtain ⟨g, role, vth, vpk, vhi, ov, tb, h1, h2, h3⟩ := h
  exact ((h3 k).1 hr).2 (Own.lt h1 ((h2 k).1 ho)).1
end Go.Proofs.YtjlgchdekhmnnaaGreatDoor
namespace Go.E
open Go.Proofs.YtjlgchdekhmnnaaGreatDoor Go.RowKit
theorem SH.mach {B w w' : World} {L : List As} {m : MFix} {pk : List Int} {M : Ct.Mach} {g : Ghost} {role : Nat → Option Role} {vth vpk vhi : Value} {ov : Nat → Value} {tb : Nat → Nat} (h : SH B w L) (hk : Keep (fun k => w.heap.size ≤ k) w w') (hx : MachX (fun _ => False) g w' m role vth vpk vhi ov tb pk M)
  (h1 : ∀ k, Own g role k → w.heap.size ≤ k) (h2 : ∀ k, k < w.heap.size → g.N k) : SH B w' (machA m pk M :: L) :=
 h.new ⟨⟨hk.os, hk.tape, hk.output⟩, hk.size, fun k hl _ => hk.block k hl (by omega)⟩ (O := Own g role) (R := fun k => k < w'.heap.size ∧ ¬ g.N k) ⟨g, role, vth, vpk, vhi, ov, tb, hx, fun _ => Iff.rfl, fun _ => Iff.rfl⟩ h1 (fun k hr => Classical.byContradiction fun hc => hr.2 (h2 k (by omega)))
end Go.E
namespace Go.Proofs.YtjlgchdekhmnnaaGreatDoor
end Go.Proofs.YtjlgchdekhmnnaaGreatDoor
namespace Go.E
open Go.Proofs.YtjlgchdekhmnnaaGreatDoor Go.RowKit
theorem SH.bel {B w w' : World} {L : List As} (h : SH B w L) (hb : Below w.heap.size w w') : SH B w' L :=
 (h.new (A := Go.E.pu True) (O := fun _ => False) (R := fun _ => False) ⟨⟨hb.os, hb.tape, hb.output⟩, hb.size, fun k hl _ => hb.block k hl⟩ ⟨trivial, fun _ h => h, fun _ h => h⟩ (fun _ h => h.elim) (fun _ h => h.elim)).drop
end Go.E
namespace Go.Proofs.YtjlgchdekhmnnaaGreatDoor
end Go.Proofs.YtjlgchdekhmnnaaGreatDoor
namespace Go.E
open Go.Proofs.YtjlgchdekhmnnaaGreatDoor Go.RowKit
theorem SH.mx {B w : World} {L : List As} {m : MFix} {pk : List Int} {M : Ct.Mach} (h : SH B w (machA m pk M :: L)) : ∃ g role vth vpk vhi ov tb, MachX (fun _ => False) g w m role vth vpk vhi ov tb pk M := by
 obtain ⟨O, R, ⟨g, role, vth, vpk, vhi, ov, tb, h1, h2, h3⟩, _⟩ := h.opn
 exact ⟨g, role, vth, vpk, vhi, ov, tb, h1⟩
end Go.E
namespace Go.Proofs.YtjlgchdekhmnnaaGreatDoor
theorem Pick_a {n : Nat} {B w : World} {L : List As} (m : MFix) (pk : List Int) (M : Ct.Mach) (th : Int) (h : SH B w (machA m pk M :: L)) (inv : MInv (n + 1) M) :
  Calls Tryz.prog 22 #[.pointer (some ⟨m.mb, 0, none⟩), .int .i64 th] w fun e w' => e = .returned (.bool (pickM th M).2) ∧ SH B w' (machA m pk (pickM th M).1 :: L) := by
 obtain ⟨O, R, ⟨g, role, vth, vpk, vhi, ov, tb, h1, h2, h3⟩, hs⟩ := h.opn
 refine (pick_any n g w m role vth vpk vhi ov tb pk M th h1 inv).mono ?_
 rintro e w' ⟨vn, vc, N, role', vth', vhi', ov', tb', rfl, hm, hv⟩
 obtain ⟨⟨F, hk, hF⟩, hN, hO, hw⟩ := hv
 refine ⟨rfl, hs (A' := machA m pk (pickM th M).1) (O' := Own ⟨g.a, vn, vc, N⟩ role') (R' := fun k => k < w'.heap.size ∧ ¬ N k) ⟨_, _, _, _, _, _, _, hm, fun _ => Iff.rfl, fun _ => Iff.rfl⟩ ⟨⟨hk.os, hk.tape, hk.output⟩, hk.size, fun k hl hn => hk.block k hl (fun hf => ?_)⟩ (fun k hk' => (hw k hk').imp (h2 k).2 id) (fun k hk' => ?_)⟩
 ·rcases hF k hf with h4 | h4
  ·exact hn ((h2 k).2 h4)
  ·omega
 ·by_cases hl : k < w.heap.size
  ·exact .inr (.inl ((h3 k).2 ⟨hl, fun hn => hk'.2 (hO k hn)⟩))
  ·exact .inr (.inr (by omega))
def accX : Ct.Code → Ct.Acc
 | .load c _ => { kind := 1, cell := c }
 | .cas c o n _ => { kind := 2, cell := c, old := o, new := n }
 | _ => {}
def nowM (M : Ct.Mach) (th : Int) : Option (Nat × Ct.Acc) := if th < 0 then none else match M.threads[th.toNat]? with
 | none => none
 | some t => t.present.map fun c => (t.index, accX c)
end Go.Proofs.YtjlgchdekhmnnaaGreatDoor
end
section
namespace Go.Proofs.YtjlgchdekhmnnaaGreatDoor
open Go.E
theorem bd_110 : bdn Tryz.prog 110 = some ([.slice none 0 0, .int .i64 0], [(0, 1), (1, 1)]) := by kernel_rfl
theorem bd_75 : bdn Tryz.prog 75 = some ([.int .i64 0, .int .i64 0, .int .i64 0, .int .i64 0, .int .i64 0, .int .i64 0, .bool false], [(0, 1), (1, 4), (5, 1), (6, 1)]) := by kernel_rfl
theorem eq_75 : eqf Tryz.prog 75 = some [.i .i64, .i .i64, .i .i64, .i .i64, .i .i64, .i .i64, .b] := by kernel_rfl
theorem fo_110_0 : fo Tryz.prog 110 0 = some 0 := by kernel_rfl
theorem fo_110_1 : fo Tryz.prog 110 1 = some 1 := by kernel_rfl
theorem fo_73_0 : fo Tryz.prog 73 0 = some 0 := by kernel_rfl
theorem fo_73_1 : fo Tryz.prog 73 1 = some 1 := by kernel_rfl
theorem fo_73_2 : fo Tryz.prog 73 2 = some 2 := by kernel_rfl
theorem fo_73_3 : fo Tryz.prog 73 3 = some 3 := by kernel_rfl
theorem fo_75_0 : fo Tryz.prog 75 0 = some 0 := by kernel_rfl
theorem fo_75_1 : fo Tryz.prog 75 1 = some 1 := by kernel_rfl
theorem fo_75_2 : fo Tryz.prog 75 2 = some 5 := by kernel_rfl
theorem fo_75_3 : fo Tryz.prog 75 3 = some 6 := by kernel_rfl
theorem one_22 : oneC Tryz.prog 22 = true := by kernel_rfl
theorem one_3 : oneC Tryz.prog 3 = true := by kernel_rfl
theorem one_40 : oneC Tryz.prog 40 = true := by kernel_rfl
theorem one_41 : oneC Tryz.prog 41 = true := by kernel_rfl
theorem row_73 : rowN Tryz.prog 73 = some 4 := by kernel_rfl
theorem row_75 : rowN Tryz.prog 75 = some 7 := by kernel_rfl
theorem sl_22 : Tryz.prog.underlying 22 = some (.slice 3) := by kernel_rfl
theorem sl_56 : Tryz.prog.underlying 56 = some (.slice 40) := by kernel_rfl
theorem sl_69 : Tryz.prog.underlying 69 = some (.slice 75) := by kernel_rfl
theorem ss_40 : sizes Tryz.prog 40 = some (.int .i64 0, 1, 8) := by kernel_rfl
theorem sz_3 : (Tryz.prog.info? 3).map (·.size) = some 1 := by kernel_rfl
theorem sz_4 : (Tryz.prog.info? 4).map (·.size) = some 1 := by kernel_rfl
theorem sz_40 : (Tryz.prog.info? 40).map (·.size) = some 1 := by kernel_rfl
theorem sz_75 : (Tryz.prog.info? 75).map (·.size) = some 7 := by kernel_rfl
theorem un_27 : Tryz.prog.underlying 27 = some (.int .u64) := by kernel_rfl
theorem un_3 : Tryz.prog.underlying 3 = some (.int .i64) := by kernel_rfl
theorem zc_75 : zc Tryz.prog 75 = some [.int .i64 0, .int .i64 0, .int .i64 0, .int .i64 0, .int .i64 0, .int .i64 0, .bool false] := by kernel_rfl
theorem en_55 : Ents Tryz.prog 55 := enG Tryz.func55 rfl rfl
theorem en_25 : Ents Tryz.prog 25 := enG Tryz.func25 rfl rfl
theorem en_38 : Ents Tryz.prog 38 := enG Tryz.func38 rfl rfl
theorem en_13 : Ents Tryz.prog 13 := enG Tryz.func13 rfl rfl
theorem en_95 : Ents Tryz.prog 95 := enG Tryz.func95 rfl rfl
theorem en_64 : Ents Tryz.prog 64 := enG Tryz.func64 rfl rfl
theorem en_94 : Ents Tryz.prog 94 := enG Tryz.func94 rfl rfl
theorem en_65 : Ents Tryz.prog 65 := enG Tryz.func65 rfl rfl
end Go.Proofs.YtjlgchdekhmnnaaGreatDoor
end
