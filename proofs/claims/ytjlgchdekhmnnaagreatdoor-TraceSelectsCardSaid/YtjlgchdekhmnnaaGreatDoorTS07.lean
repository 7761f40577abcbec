/- Parts of a proof: E6, Tu, Tyv. -/
import Derived.Test.YtjlgchdekhmnnaaGreatDoorTS04
import Derived.Laws.Small
import Derived.Test.YtjlgchdekhmnnaaGreatDoorTS06
import Derived.Test.YtjlgchdekhmnnaaGreatDoorTS05
set_option linter.unusedVariables false
set_option linter.unusedSimpArgs false
section
namespace Go.E
variable {P : Program} {n : Nat} {K : Post} {e : Tm} {w : World} {ops : Array Oper} {l : List Oper} {S : World → Prop} {ls : List (Oper × Bool)} {B : World} {L L' : List As}
variable {d : Option Tmp} {ty : TypeId} {ps : String} {af : Array Edge} {g : Option (Nat × Bool)}
theorem flat_set {α : Type} {enc : α → List Value} {sz : Nat} (he : ∀ x, (enc x).length = sz) (a : α) : ∀ (xs : List α) (j : Nat), j < xs.length → (xs.set j a).flatMap enc = (xs.flatMap enc).take (j * sz) ++ enc a ++ (xs.flatMap enc).drop (j * sz + sz)
 | [], j, h => by simp at h
 | y :: xs, 0, h => by
  simp only [List.set_cons_zero, List.flatMap_cons, Nat.zero_mul, List.take_zero, List.nil_append, Nat.zero_add]
  rw [List.drop_append, he, List.drop_of_length_le (by rw [he]; omega), Nat.sub_self]; simp
 | y :: xs, j + 1, h => by
  simp only [List.set_cons_succ, List.flatMap_cons]
  rw [flat_set he a xs j (by simpa using h), List.take_append, List.drop_append, he, Nat.succ_mul, List.take_of_length_le (l := enc y) (by rw [he]; omega), List.drop_of_length_le (l := enc y) (by rw [he]; omega), show j * sz + sz - sz = j * sz by omega, show j * sz + sz + sz - sz = j * sz + sz by omega]
  simp
theorem sor {α : Type} {t el : TypeId} {x y : Operand} {b c m j sz : Nat} {v : Value} {enc : α → List Value} {xs : List α} {a : α} (h : SH B w L) (hT : (P.info? t).map (·.size) = some sz) (he : ∀ x, (enc x).length = sz) (ho : ∀ x, (enc x).all Value.oneCell' = true)
  (hx : ev n e x = some (.pointer (some ⟨b, 0 + j * sz, none⟩))) (hy : ev n e y = some v) (hv : v.cells = (enc a).toArray) (hj : j < m) (hm : xs.length = m)
  (up : Upd L L' (osl el sz (.slice (some ⟨b, 0, none⟩) m c) m (xs.flatMap enc)) (osl el sz (.slice (some ⟨b, 0, none⟩) m c) m ((xs.set j a).flatMap enc))) : F P n e ⟨d, .store t x y, ty, ps, af, g⟩ w fun _ w' => SH B w' L' := by
 obtain ⟨mm, m0, m1, _⟩ := up.ix
 have hown : w.ownsRow 0 el sz (.slice (some ⟨b, 0, none⟩) m c) m (xs.flatMap enc) := by obtain ⟨_, O, R, hp, _⟩ := h; exact (hp mm _ m1).1
 rcases hown.2 with ⟨h1, _⟩ | ⟨b', cap, cur, h1, h2, h3, h4, h5, h6, h7⟩
 ·cases h1
 injection h1 with h1 _ h8
 injection h1 with h1; injection h1 with h1
 subst h1 h8
 have hl : j * sz + sz ≤ m * sz := by rw [← Nat.succ_mul]; exact Nat.mul_le_mul_right _ hj
 have hcs : m * sz ≤ cur.size := by rw [h6]; exact Nat.mul_le_mul_right _ h4
 have hst := run_storeCells_at P b (j * sz) el (enc a) 0 cur w h3 (by rw [he]; omega) (fun v hv => List.all_eq_true.1 (ho a) v hv)
 rw [Nat.add_zero, he] at hst
 refine ⟨undef, w.setRow b (cur.toList.take (j * sz) ++ enc a ++ cur.toList.drop (j * sz + sz)).toArray, .inr ⟨fun f hf => ?_, rfl⟩, ?_⟩
 ·cases hq : P.info? t with
  | none => rw [hq] at hT; cases hT
  | some i =>
   rw [hq] at hT
   have g4 : i.size = sz := by simpa using hT
   have g5 : v.cells.size = sz := by rw [hv]; simp [he]
   have g7 : v.cells.toList = enc a := by rw [hv]
   rw [Nat.zero_add] at hx
   simp [execOp, hf.eval hx, hf.eval hy, Instr.storeAt, Instr.sureAddr, storeVar, sizeOf, typeInfo, hq, g4, g5, g7, hst]
 ·refine h.step up fun O R hA => ⟨O, R, ⟨⟨?_, .inr ⟨b, c, _, rfl, h2, setRow_heap _ _ _ _ _ _ h3, h4, h5, ?_, ?_⟩⟩, hA.2⟩, ⟨⟨rfl, rfl, rfl⟩, by simp [World.setRow], fun k hk hn => setRow_other _ _ _ _ fun e => hn ((hA.2.1 k).2 (by rw [e]; rfl))⟩, fun k hk => .inl hk, fun k hk => .inr (.inl hk)⟩
  ·rw [flat_len he, List.length_set, hm]
  ·have : cur.toList.length = cur.size := rfl
   simp only [List.size_toArray, List.length_append, List.length_take, List.length_drop, he, this]; omega
  ·rw [flat_set he a xs j (by omega), ← h7]
   have : cur.toList.length = cur.size := rfl
   have e1 : (cur.toList.take (j * sz)).length = j * sz := by rw [List.length_take, this]; omega
   have e2 : (cur.toList.take (j * sz) ++ enc a).length = j * sz + sz := by rw [List.length_append, e1, he]
   show (cur.toList.take (j * sz) ++ enc a ++ cur.toList.drop (j * sz + sz)).take (m * sz) = _
   rw [List.take_append, e2, List.take_of_length_le (by rw [e2]; omega), List.take_take, Nat.min_eq_left (by omega), List.drop_take]
theorem madeRows {α : Type} {enc : α → List Value} {sz : Nat} (he : ∀ x, (enc x).length = sz) (hs : 0 < sz) {z : Value} {d : α} (hz : z.cells = (enc d).toArray) (m : Nat) : (madeCells z.cells (m * sz)).toList = (List.replicate m d).flatMap enc := by
 apply List.ext_getElem?
 intro i
 by_cases hi : i < m * sz
 ·have hq : i / sz < m := Nat.div_lt_of_lt_mul (by rw [Nat.mul_comm]; exact hi)
  have hr : i % sz < sz := Nat.mod_lt _ hs
  have hd : i / sz * sz + i % sz = i := by rw [Nat.mul_comm]; exact Nat.div_add_mod i sz
  have h1 : ((List.replicate m d).flatMap enc)[i]? = (enc d)[i % sz]? := by
   have := flat_get he (List.replicate m d) (i / sz) (i % sz) d (by rw [List.getElem?_replicate, if_pos hq]) hr
   rwa [hd] at this
  rw [h1, hz]
  have hl : (enc d).toArray.size = sz := by simp [he]
  simp only [madeCells, Array.toList_map, Array.toList_range, List.getElem?_map, List.getElem?_range hi, Option.map_some, hl]
  simp [he, hr]
 ·rw [List.getElem?_eq_none (by simp [madeCells]; omega), List.getElem?_eq_none (by rw [flat_len he, List.length_replicate]; omega)]
theorem mx {x y : Operand} {ats : Array TypeId} {k k' : IntKind} {a b c : Int} (hx : ev n e x = some (.int k a)) (hy : ev n e y = some (.int k' b)) (hc : (if b > a then b else a) = c) : Y P n e ⟨d, .call ⟨.builtin .max, #[x, y], ats⟩, ty, ps, af, g⟩ w (.int k c) w := fun f hf => by
 have := run_max_int2 (P := P) (w := w) ats ty k k' a b
 rw [hc] at this
 simp [execOp, resolve, invoke, builtin, hf.eval hx, hf.eval hy, this]
theorem natI {p : Addr} {k : IntKind} {zs : List Nat} {j : Nat} (h : w.cell? p = some (.int k ((zs.map (fun i : Nat => (i : Int))).getD j 0))) : w.cell? p = some (.int k ((zs.getD j 0 : Nat) : Int)) := by
 rw [h]; congr 2
 rw [List.getD_eq_getElem?_getD, List.getD_eq_getElem?_getD, List.getElem?_map]
 cases zs[j]? <;> rfl
theorem SH.rb {b : Nat} {cs : List Value} {t : TypeId} (h : SH B w L) (m : At L (rb b cs t)) : w.heap[b]? = some (.cells cs.toArray t (0, 0)) := by
 obtain ⟨_, _, h1⟩ := h.at_ m; exact h1.1
theorem Hs.rb {F : List As} {b : Nat} {cs : List Value} {t : TypeId} (h : Hs F w) (m : At F (rb b cs t)) : w.heap[b]? = some (.cells cs.toArray t (0, 0)) := by
 obtain ⟨_, _, h1⟩ := h _ m; exact h1.1
theorem SH.rbc {b : Nat} {cs : List Value} {t : TypeId} {j : Nat} {v : Value} (h : SH B w L) (m : At L (Go.E.rb b cs t)) (hj : cs[j]? = some v) : w.cell? ⟨b, j, none⟩ = some v := by
 simp [World.cell?, h.rb m, hj]
theorem Hs.rbc {F : List As} {b : Nat} {cs : List Value} {t : TypeId} {j : Nat} {v : Value} (h : Hs F w) (m : At F (Go.E.rb b cs t)) (hj : cs[j]? = some v) : w.cell? ⟨b, j, none⟩ = some v := by
 simp [World.cell?, h.rb m, hj]
end Go.E
end
section
namespace Go.Proofs.YtjlgchdekhmnnaaGreatDoor
open Go.RowKit Go.E
theorem wh_T {q : Ct.Ent → Bool} {l : List Ct.Ent} {k : Nat} (h : k < l.length) (hq : q (l.getD k {}) = true) : Ct.whereF q (l.drop k) k = [((k : Nat) : Int)] ++ Ct.whereF q (l.drop (k + 1)) (k + 1) := by
 rw [Ct.drop_get h {}]; simp only [Ct.whereF]; rw [if_pos hq]; rfl
theorem wh_F {q : Ct.Ent → Bool} {l : List Ct.Ent} {k : Nat} (h : k < l.length) (hq : q (l.getD k {}) = false) : Ct.whereF q (l.drop k) k = Ct.whereF q (l.drop (k + 1)) (k + 1) := by
 rw [Ct.drop_get h {}]; simp only [Ct.whereF]; rw [if_neg (by rw [hq]; decide)]
set_option maxRecDepth 100000 in
theorem wr_any {B w : World} {L : List As} (x : Ct.Ent) (b : Nat) (c : Int) (h : SH B w (bl b ([.int .i64 c]) 41 :: L)) :
  Calls Tryz.prog 68 #[.agg (entC x).toArray, .pointer (some ⟨b, 0, none⟩)] w fun e w' => e = .returned (.bool (Ct.isWrite c x)) ∧ SH B w' (bl b [.int .i64 c] 41 :: L) := by
 refine bgn (args := [_, _]) Tryz.func68 rfl Tryz.ntmps68 rfl ?_
 refine sq <| rg <| sf (bx h rfl rfl) <| ?_
 rintro _ w ⟨b1, rfl, h⟩
 refine st (sg rfl) <| xe <| nx <| sq <| rg <| st (fa fo_75_1 rfl) <| st (fa fo_73_0 rfl) <| st (ld one_3 rfl (h.c a0 rfl)) <| st (bi rfl rfl rfl) <| st (mv rfl) <| ?_
 rcases Bool.eq_false_or_eq_true ((x.acc.kind : Int) == 2) with hd2 | hd2
 ·have hg3 := eq_of_beq hd2
  refine gT rfl rfl hd2 <| st (fa fo_75_1 rfl) <| gT rfl rfl hd2 <| st (fa fo_73_1 rfl) <| gT rfl rfl hd2 <| st (ld one_41 rfl (h.c a0 rfl)) <| gT rfl rfl hd2 <| st (ld one_41 rfl (h.c a1 rfl)) <| gT rfl rfl hd2 <| st (bi rfl rfl rfl) <| st (pT rfl hd2 rfl) <| st (mv rfl) <| ?_
  rcases Bool.eq_false_or_eq_true ((x.acc.cell : Int) == c) with hd4 | hd4
  ·have hg5 := eq_of_beq hd4
   refine gT rfl rfl hd4 <| st (fa fo_75_3 rfl) <| gT rfl rfl hd4 <| st (ld one_4 rfl (h.c a0 rfl)) <| st (pT rfl hd4 rfl) <| st (sg rfl) <| xe <| nx <| rt <| ?_
   refine rr (res1 Tryz.results68 rfl) <| ⟨by unfold Ct.isWrite; simp [hd2, hd4], h.drop⟩
  ·have hg6 := ne_of_beq_false hd4
   refine gF rfl rfl hd4 <| gF rfl rfl hd4 <| st (pF rfl hd4 rfl) <| st (sg rfl) <| xe <| nx <| rt <| ?_
   refine rr (res1 Tryz.results68 rfl) <| ⟨by unfold Ct.isWrite; simp [hd2, hd4], h.drop⟩
 ·have hg7 := ne_of_beq_false hd2
  refine gF rfl rfl hd2 <| gF rfl rfl hd2 <| gF rfl rfl hd2 <| gF rfl rfl hd2 <| gF rfl rfl hd2 <| st (pF rfl hd2 rfl) <| st (mv rfl) <| gF rfl rfl rfl <| gF rfl rfl rfl <| st (pF rfl rfl rfl) <| st (sg rfl) <| xe <| nx <| rt <| ?_
  refine rr (res1 Tryz.results68 rfl) <| ⟨by unfold Ct.isWrite; simp [hd2], h.drop⟩
set_option maxRecDepth 100000 in
theorem th_any {B w : World} {L : List As} (x : Ct.Ent) (b : Nat) (t : Int) (h : SH B w (bl b ([.int .i64 t]) 3 :: L)) :
  Calls Tryz.prog 69 #[.agg (entC x).toArray, .pointer (some ⟨b, 0, none⟩)] w fun e w' => e = .returned (.bool (Ct.isThread t x)) ∧ SH B w' (bl b [.int .i64 t] 3 :: L) := by
 refine bgn (args := [_, _]) Tryz.func69 rfl Tryz.ntmps69 rfl ?_
 refine sq <| rg <| sf (bx h rfl rfl) <| ?_
 rintro _ w ⟨b1, rfl, h⟩
 refine st (sg rfl) <| xe <| nx <| sq <| rg <| st (fa fo_75_0 rfl) <| st (ld one_3 rfl (h.c a0 rfl)) <| st (ld one_3 rfl (h.c a1 rfl)) <| st (bi rfl rfl rfl) <| st (sg rfl) <| xe <| nx <| rt <| ?_
 refine rr (res1 Tryz.results69 rfl) <| ⟨rfl, h.drop⟩
set_option maxRecDepth 100000 in
theorem where_any {B w : World} {L : List As} (l : List Ct.Ent) (p : Option Addr) (c : Nat) (hl : l.length ≤ 1000000) (C : As) (q : Ct.Ent → Bool) (F b : Nat) (en : Ents Tryz.prog F) (hf : ∀ {B w : World} {L : List As} (x : Ct.Ent), SH B w (C :: L) → Calls Tryz.prog F #[.agg (entC x).toArray, .pointer (some ⟨b, 0, none⟩)] w fun e w' => e = .returned (.bool (q x)) ∧ SH B w' (C :: L)) (h : SH B w (C :: rsl 7 (.slice p l.length c) l.length (l.flatMap entC) :: L)) :
  Calls Tryz.prog 67 #[.slice p l.length c, .func (.func F) [].toArray [.pointer (some ⟨b, 0, none⟩)].toArray] w fun e w' => ∃ p9 c9 n, (Ct.whereF q l 0).length = n ∧ e = .returned (.slice p9 n c9) ∧ SH B w' (osl 3 1 (.slice p9 n c9) n ((Ct.whereF q l 0).map (Value.int .i64)) :: C :: rsl 7 (.slice p l.length c) l.length (l.flatMap entC) :: L) := by
 refine bgn (args := [_, _]) Tryz.func67 rfl Tryz.ntmps67 rfl ?_
 refine sq <| rg <| st (sg rfl) <| xe <| nx <| sq <| rg <| st (sg rfl) <| xe <| nx <| sq <| sq <| rg <| st (mv rfl) <| st (ln sl_69 rfl rfl) <| st (mv rfl) <| xe <| nx <| bk <| ?_
 have h := SH.nil 3 1 h
 refine lp (α := Nat × List Int × Nat × Option Addr × Nat) (fun x => (.c 1 (.func (.func F) [].toArray [.pointer (some ⟨b, 0, none⟩)].toArray) (.c 5 (.slice x.2.2.2.1 x.2.2.1 x.2.2.2.2) (.c 8 (.slice p l.length c) (.c 9 (.int .i64 ((l.length : Nat) : Int)) (.c 10 (.int .i64 ((x.1 : Nat) : Int)) .n)))))) (fun x w => SH B w (osl 3 1 (.slice x.2.2.2.1 x.2.2.1 x.2.2.2.2) x.2.2.1 (x.2.1.map (Value.int .i64)) :: C :: rsl 7 (.slice p l.length c) l.length (l.flatMap entC) :: L) ∧ (x.1 ≤ l.length) ∧ (x.2.1.length = x.2.2.1) ∧ (x.2.2.1 ≤ x.1) ∧ (Ct.whereF q l 0 = x.2.1 ++ Ct.whereF q (l.drop x.1) x.1)) (fun x => l.length - x.1) (0, [], 0, none, 0) ⟨rfl, rfl, rfl, rfl, rfl, trivial⟩ ⟨h, Nat.zero_le _, rfl, Nat.le_refl _, rfl⟩ ?_
 rintro ⟨k, ys, n, p9, c9⟩ w ⟨h, hk, hn, hm, hE⟩
 dsimp only at *
 refine sq <| rg <| st (bi rfl rfl rfl) <| xe <| nx <| sq <| ?_
 rcases Bool.eq_false_or_eq_true (decide ((((k : Nat) : Int) : Int) < ((l.length : Nat) : Int))) with hd1 | hd1
 ·have hg2 := of_decide_eq_true hd1
  refine ct rfl hd1 <| sk <| nx <| sq <| bk <| sq <| rg <| st (mv rfl) <| ?_
  obtain ⟨b3, o4, rfl⟩ := h.fq a2 (by omega)
  refine st (ix (j := k) sl_69 sz_75 rfl rfl (by omega)) <| st (ldr rfl ((h.rr a2).x entC_len (by decide) (by omega) {}) row_75) <| sf (al h zc_75) <| ?_
  rintro _ w ⟨b5, rfl, h⟩
  refine st (sg rfl) <| sf (so h rfl rfl rfl sz_75 rfl (.r (.r (.r (.r (.r (.r (.r .d))))))) u0) <| ?_
  rintro _ w h
  refine xe <| nx <| sq <| rg <| st (mv rfl) <| st (ldr rfl (rows_all (h.b a0)) row_75) <| cl (cv_ en rfl rfl) ((hf (l.getD k {}) (h.fr (.c r2 .n))).mono ?_)
  rintro _ w ⟨rfl, h⟩
  refine ⟨_, rfl, ?_⟩
  refine xe <| nx <| ?_
  rcases Bool.eq_false_or_eq_true (q (l.getD k {})) with hd6 | hd6
  ·refine ct rfl hd6 <| rg <| st (mv rfl) <| st (mv rfl) <| sf (bu [.int .i64 ((k : Nat) : Int)] h sl_22 ss_3 rfl (by kernel_rfl) rfl (by decide) (by decide)) <| ?_
   rintro _ w ⟨b7, rfl, h⟩
   refine sf (ap h sl_22 rfl ss_3 rfl (by decide) rfl rfl (fun _ => u3) (h.ro a0) (by simp [Value.oneCell']) rfl (join_ints _ _) (by unfold maxLen; omega) (by omega)) <| ?_
   rintro _ w ⟨p8, c9, rfl, h⟩
   refine st (sg rfl) <| xe <| bn <| nx <| rg <| st (bw rfl rfl (wadd (c := ((k + 1 : Nat) : Int)) (by omega) (by omega) (by omega))) <| st (mv rfl) <| xe <| nx <| ?_
   exact ⟨(k + 1, ys ++ [((k : Nat) : Int)], n + 1, p8, c9), ⟨rfl, rfl, rfl, rfl, rfl, trivial⟩, ⟨((h.fr (.c r0 (.c r1 .n))).drop.drop.fr (.c r1 (.c r0 (.c r0 .n)))), by (try dsimp only); omega, by simp [hn], by (try dsimp only); omega, by rw [hE, wh_T (by omega) hd6, List.append_assoc]⟩, by (try dsimp only); omega⟩
  ·refine cf rfl hd6 <| sk <| bn <| nx <| rg <| st (bw rfl rfl (wadd (c := ((k + 1 : Nat) : Int)) (by omega) (by omega) (by omega))) <| st (mv rfl) <| xe <| nx <| ?_
   exact ⟨(k + 1, ys, n, p9, c9), ⟨rfl, rfl, rfl, rfl, rfl, trivial⟩, ⟨((h.fr (.c r1 .n)).drop.fr (.c r1 (.c r0 (.c r0 .n)))), by (try dsimp only); omega, hn, by (try dsimp only); omega, by rw [hE, wh_F (by omega) hd6]⟩, by (try dsimp only); omega⟩
 ·have hg10 := of_decide_eq_false hd1
  refine cf rfl hd1 <| xt <| tx <| tx <| be <| nx <| sq <| rg <| st (mv rfl) <| st (sg rfl) <| xe <| nx <| rt <| ?_
  obtain rfl : k = l.length := by omega
  rw [List.drop_length] at hE
  have hE : Ct.whereF q l 0 = ys := by rw [hE]; simp [Ct.whereF]
  refine rr (res1 Tryz.results67 rfl) <| ?_
  rw [hE]; exact ⟨p9, c9, n, hn, rfl, h⟩
set_option maxRecDepth 100000 in
theorem Writes_any {B w : World} {L : List As} (l : List Ct.Ent) (p : Option Addr) (c : Nat) (hl : l.length ≤ 1000000) (x : Int) (h : SH B w (rsl 7 (.slice p l.length c) l.length (l.flatMap entC) :: L)) :
  Calls Tryz.prog 40 #[.slice p l.length c, .int .i64 x] w fun e w' => ∃ p9 c9 n, (Ct.whereF (Ct.isWrite x) l 0).length = n ∧ e = .returned (.slice p9 n c9) ∧ SH B w' (rsl 1 (.slice p9 n c9) n ((Ct.whereF (Ct.isWrite x) l 0).map (Value.int .i64)) :: rsl 7 (.slice p l.length c) l.length (l.flatMap entC) :: L) := by
 refine bgn (args := [_, _]) Tryz.func40 rfl Tryz.ntmps40 rfl ?_
 refine sq <| rg <| sf (bx h rfl rfl) <| ?_
 rintro _ w ⟨b1, rfl, h⟩
 refine st (sg rfl) <| xe <| nx <| sq <| rg <| st (mv rfl) <| st (mf rfl rfl) <| cl (ca en_67 rfl) ((where_any l p c hl (bl b1 ([.int .i64 x]) 41) (Ct.isWrite x) 68 b1 en_68 (fun x h => wr_any x _ _ h) (h.fr (.c r0 (.c r0 .n)))).mono ?_)
 rintro _ w ⟨p9, c9, n, hn, rfl, h⟩
 refine ⟨_, rfl, ?_⟩
 refine st (sg rfl) <| xe <| nx <| rt <| ?_
 have h := (h.fr (.c r1 .n)).drop
 refine rr (res1 Tryz.results40 rfl) <| ⟨p9, c9, n, hn, rfl, h.fz⟩
set_option maxRecDepth 100000 in
theorem Thread_any {B w : World} {L : List As} (l : List Ct.Ent) (p : Option Addr) (c : Nat) (hl : l.length ≤ 1000000) (th : Int) (h : SH B w (rsl 7 (.slice p l.length c) l.length (l.flatMap entC) :: L)) :
  Calls Tryz.prog 42 #[.slice p l.length c, .int .i64 th] w fun e w' => ∃ p9 c9 n, (l.filter (Ct.isThread th)).length = n ∧ e = .returned (.slice p9 n c9) ∧ SH B w' (rsl 7 (.slice p9 n c9) n ((l.filter (Ct.isThread th)).flatMap entC) :: rsl 7 (.slice p l.length c) l.length (l.flatMap entC) :: L) := by
 refine bgn (args := [_, _]) Tryz.func42 rfl Tryz.ntmps42 rfl ?_
 refine sq <| rg <| sf (bx h rfl rfl) <| ?_
 rintro _ w ⟨b1, rfl, h⟩
 refine st (sg rfl) <| xe <| nx <| sq <| rg <| st (mv rfl) <| st (mf rfl rfl) <| cl (ca en_67 rfl) ((where_any l p c hl (bl b1 ([.int .i64 th]) 3) (Ct.isThread th) 69 b1 en_69 (fun x h => th_any x _ _ h) (h.fr (.c r0 (.c r0 .n)))).mono ?_)
 rintro _ w ⟨p9, c9, n, hn, rfl, h⟩
 rw [Ct.where_N] at h hn
 rw [List.length_map] at hn
 have hnl : n ≤ l.length := by rw [← hn]; exact Ct.whereN_len _ _ _
 refine ⟨_, rfl, ?_⟩
 refine st (sg rfl) <| xe <| nx <| sq <| rg <| st (mv rfl) <| st (ln sl_22 rfl rfl) <| sf (mk h sl_69 ss_75 rfl rfl (by omega) (by unfold maxLen; omega)) <| ?_
 rintro _ w ⟨b2, rfl, h⟩
 rw [madeRows entC_len (by decide) (d := {}) rfl] at h
 refine st (sg rfl) <| xe <| nx <| sq <| sq <| rg <| st (mv rfl) <| st (ln sl_22 rfl rfl) <| st (mv rfl) <| xe <| nx <| bk <| ?_
 refine lp (α := Nat × List Ct.Ent) (fun x => (.c 0 (.slice p l.length c) (.c 6 (.slice (some ⟨b2, 0, none⟩) n n) (.c 15 (.slice p9 n c9) (.c 16 (.int .i64 ((n : Nat) : Int)) (.c 17 (.int .i64 ((x.1 : Nat) : Int)) .n)))))) (fun x w => SH B w (osl 75 7 (.slice (some ⟨b2, 0, none⟩) n n) n (x.2.flatMap entC) :: osl 3 1 (.slice p9 n c9) n (((Ct.whereN (Ct.isThread th) l 0).map (fun i : Nat => (i : Int))).map (Value.int .i64)) :: rsl 7 (.slice p l.length c) l.length (l.flatMap entC) :: L) ∧ (x.1 ≤ n) ∧ (x.2.length = n) ∧ (∀ i, i < x.1 → x.2.getD i {} = l.getD ((Ct.whereN (Ct.isThread th) l 0).getD i 0) {})) (fun x => n - x.1) (0, List.replicate n {}) ⟨rfl, rfl, rfl, rfl, rfl, trivial⟩ ⟨(h.fr (.c r2 .n)).drop, Nat.zero_le _, by simp, fun i hi => by omega⟩ ?_
 rintro ⟨k, os⟩ w ⟨h, hk, ho, hx⟩
 dsimp only at *
 refine sq <| rg <| st (bi rfl rfl rfl) <| xe <| nx <| sq <| ?_
 rcases Bool.eq_false_or_eq_true (decide ((((k : Nat) : Int) : Int) < ((n : Nat) : Int))) with hd3 | hd3
 ·have hg4 := of_decide_eq_true hd3
  refine ct rfl hd3 <| sk <| nx <| sq <| bk <| sq <| rg <| st (mv rfl) <| ?_
  obtain ⟨b5, rfl⟩ := h.fp a1 (by omega)
  refine st (ix (j := k) sl_22 sz_3 rfl rfl (by omega)) <| st (ld one_3 rfl (natI ((h.ro a1).i (by omega)))) <| st (sg rfl) <| st (sg rfl) <| xe <| nx <| rg <| st (mv rfl) <| st (mv rfl) <| st (mv rfl) <| st (mv rfl) <| ?_
  obtain ⟨b6, o7, rfl⟩ := h.fq a2 (by omega)
  refine st (ix (j := (Ct.whereN (Ct.isThread th) l 0).getD k 0) sl_69 sz_75 rfl rfl (Ct.whereN_lt (by omega))) <| st (ldr rfl ((h.rr a2).x entC_len (by decide) (Ct.whereN_lt (by omega)) {}) row_75) <| st (ix (j := k) sl_69 sz_75 rfl rfl (by omega)) <| sf (sor (enc := entC) (a := l.getD ((Ct.whereN (Ct.isThread th) l 0).getD k 0) {}) h sz_75 entC_len entC_one rfl rfl rfl (by omega) ho u0) <| ?_
  rintro _ w h
  refine xe <| bn <| nx <| rg <| st (bw rfl rfl (wadd (c := ((k + 1 : Nat) : Int)) (by omega) (by omega) (by omega))) <| st (mv rfl) <| xe <| nx <| ?_
  exact ⟨(k + 1, os.set k (l.getD ((Ct.whereN (Ct.isThread th) l 0).getD k 0) {})), ⟨rfl, rfl, rfl, rfl, rfl, trivial⟩, ⟨h, by (try dsimp only); omega, by rw [List.length_set]; exact ho, fun i (hi : i < k + 1) => if e : i = k then (by show (os.set k _).getD i {} = _; rw [Ct.setD _ _ _ _ (by omega), if_pos e, e]) else (by show (os.set k _).getD i {} = _; rw [Ct.setD _ _ _ _ (by omega), if_neg e]; exact hx i (by omega))⟩, by (try dsimp only); omega⟩
 ·have hg8 := of_decide_eq_false hd3
  refine cf rfl hd3 <| xt <| tx <| tx <| be <| nx <| sq <| rg <| st (mv rfl) <| st (sg rfl) <| xe <| nx <| rt <| ?_
  have hE : os = l.filter (Ct.isThread th) := Ct.thread_eq (by omega) (fun i hi => hx i (by omega))
  have h := (h.fr (.c r1 .n)).drop
  refine rr (res1 Tryz.results42 rfl) <| ?_
  rw [hE] at h ho; exact ⟨some ⟨b2, 0, none⟩, n, n, ho, rfl, h.fz⟩
end Go.Proofs.YtjlgchdekhmnnaaGreatDoor
end
section
namespace Go.Proofs.YtjlgchdekhmnnaaGreatDoor
open Go.E
theorem en_39 : Ents Tryz.prog 39 := enG Tryz.func39 rfl rfl
theorem en_41 : Ents Tryz.prog 41 := enG Tryz.func41 rfl rfl
theorem en_33 : Ents Tryz.prog 33 := enG Tryz.func33 rfl rfl
end Go.Proofs.YtjlgchdekhmnnaaGreatDoor
end
