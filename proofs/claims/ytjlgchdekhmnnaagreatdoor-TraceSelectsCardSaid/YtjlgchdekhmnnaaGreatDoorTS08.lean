/- Parts of a proof: Tv, E7, Tyw, Tw, Tyx, Tx. -/
import Derived.Test.YtjlgchdekhmnnaaGreatDoorTS07
import Derived.Laws.Pointers
import Derived.Test.YtjlgchdekhmnnaaGreatDoorTS05
import Derived.Test.YtjlgchdekhmnnaaGreatDoorTS06
set_option linter.unusedVariables false
set_option linter.unusedSimpArgs false
section
namespace Go.Proofs.YtjlgchdekhmnnaaGreatDoor
open Go.RowKit Go.E
theorem ext_getD {α : Type} {a b : List α} (d : α) (hl : a.length = b.length) (hx : ∀ i, i < a.length → a.getD i d = b.getD i d) : a = b := by
 apply List.ext_getElem hl
 intro i h1 h2
 have := hx i h1
 rwa [List.getD_eq_getElem?_getD, List.getD_eq_getElem?_getD, List.getElem?_eq_getElem h1, List.getElem?_eq_getElem h2] at this
set_option maxRecDepth 100000 in
theorem Check_any {B w : World} {L : List As} (xs : List Int) (p : Option Addr) (c : Nat) (hl : xs.length ≤ 1000000) (le : List Ct.Ent) (pe : Option Addr) (ce : Nat) (hle : le.length ≤ 1000000) (h : SH B w (rsl 1 (.slice p xs.length c) xs.length (xs.map (Value.int .i64)) :: rsl 7 (.slice pe le.length ce) le.length (le.flatMap entC) :: L)) :
  Calls Tryz.prog 33 #[.slice p xs.length c, .slice pe le.length ce] w fun e w' => e = .returned (.tuple [.int .i64 (((Ct.executeF xs le 0).1 : Nat) : Int), .int .i64 (Ct.executeF xs le 0).2.1].toArray) ∧ SH B w' (rsl 1 (.slice p xs.length c) xs.length (xs.map (Value.int .i64)) :: rsl 7 (.slice pe le.length ce) le.length (le.flatMap entC) :: L) := by
 refine bgn (args := [_, _]) Tryz.func33 rfl Tryz.ntmps33 rfl ?_
 refine sq <| rg <| st (sg rfl) <| st (sg rfl) <| xe <| nx <| sq <| rg <| st (mv rfl) <| cl (ca en_65 rfl) ((cloneR_any xs p c (by omega) (h.fr (.c r0 .n))).mono ?_)
 rintro _ w ⟨_, rfl, h⟩
 obtain ⟨p9, c9, rfl⟩ := h.fo a0
 refine ⟨_, rfl, ?_⟩
 refine st (mv rfl) <| cl (ca en_64 rfl) ((execute_any xs xs.length rfl p9 c9 le pe ce hle (h.fr (.c r0 (.c r1 .n)))).mono ?_)
 rintro _ w ⟨rfl, h⟩
 refine ⟨_, rfl, ?_⟩
 refine st (xr rfl rfl) <| st (xr rfl rfl) <| st (sg rfl) <| st (sg rfl) <| xe <| nx <| rt <| ?_
 refine rr (res2 Tryz.results33 rfl rfl) <| ⟨rfl, (h.drop.fr (.c r1 (.c r0 .n)))⟩
set_option maxRecDepth 100000 in
theorem EqualI_any {B w : World} {L : List As} (la lb : List Int) (pa pb : Option Addr) (ca cb : Nat) (hl : la.length ≤ 1000000) (h : SH B w (rsl 1 (.slice pa la.length ca) la.length (la.map (Value.int .i64)) :: rsl 1 (.slice pb lb.length cb) lb.length (lb.map (Value.int .i64)) :: L)) :
  Calls Tryz.prog 39 #[.slice pa la.length ca, .slice pb lb.length cb] w fun e w' => e = .returned (.bool (decide (la = lb))) ∧ SH B w' (rsl 1 (.slice pa la.length ca) la.length (la.map (Value.int .i64)) :: rsl 1 (.slice pb lb.length cb) lb.length (lb.map (Value.int .i64)) :: L) := by
 refine bgn (args := [_, _]) Tryz.func39 rfl Tryz.ntmps39 rfl ?_
 refine sq <| rg <| st (sg rfl) <| xe <| nx <| sq <| sq <| rg <| st (mv rfl) <| st (ln sl_22 rfl rfl) <| st (mv rfl) <| st (ln sl_22 rfl rfl) <| st (bi rfl rfl rfl) <| xe <| nx <| ?_
 rcases Bool.eq_false_or_eq_true ((((la.length : Nat) : Int) : Int) != ((lb.length : Nat) : Int)) with hd1 | hd1
 ·have hg2 := bne_iff_ne.1 hd1
  refine ct rfl hd1 <| sq <| rg <| st (sg rfl) <| xe <| nx <| rt <| tr <| ?_
  have hE : la ≠ lb := fun hc => by rw [hc] at hd1; simp at hd1
  refine rr (res1 Tryz.results39 rfl) <| ?_
  rw [decide_eq_false hE]; exact ⟨rfl, h⟩
 ·have hlen : la.length = lb.length := by have h9 := eq_of_bneF hd1; omega
  have hg3 := eq_of_bneF hd1
  refine cf rfl hd1 <| sk <| nx <| sq <| sq <| rg <| st (sg rfl) <| xe <| nx <| bk <| ?_
  refine lp (α := Nat) (fun x => (.c 0 (.slice pa la.length ca) (.c 1 (.slice pb lb.length cb) (.c 5 (.int .i64 ((x : Nat) : Int)) .n)))) (fun x w => SH B w (rsl 1 (.slice pa la.length ca) la.length (la.map (Value.int .i64)) :: rsl 1 (.slice pb lb.length cb) lb.length (lb.map (Value.int .i64)) :: L) ∧ (x ≤ la.length) ∧ (∀ i, i < x → la.getD i 0 = lb.getD i 0)) (fun x => la.length - x) 0 ⟨rfl, rfl, rfl, trivial⟩ ⟨h, Nat.zero_le _, fun i hi => by omega⟩ ?_
  rintro k w ⟨h, hk, hx⟩
  refine sq <| sq <| rg <| st (mv rfl) <| st (mv rfl) <| st (ln sl_22 rfl rfl) <| st (bi rfl rfl rfl) <| xe <| nx <| ?_
  rcases Bool.eq_false_or_eq_true (decide ((((k : Nat) : Int) : Int) < ((la.length : Nat) : Int))) with hd4 | hd4
  ·have hg5 := of_decide_eq_true hd4
   refine ct rfl hd4 <| sk <| nx <| sq <| bk <| sq <| ?_
   obtain ⟨b6, o7, rfl⟩ := h.fq a0 (by omega)
   obtain ⟨b8, o9, rfl⟩ := h.fq a1 (by omega)
   refine drH [1, 3, 5, 7, 9, 11, 13, 15, 17] (by kernel_rfl) h (.c r0 (.c r0 .n)) fun w h => tk (fun W H => mv rfl) <| tk (fun W H => mv rfl) <| tk (fun W H => ix (j := k) sl_22 sz_3 rfl rfl (by omega)) <| tk (fun W H => ld one_3 rfl ((H.rr a0).i (by omega))) <| tk (fun W H => mv rfl) <| tk (fun W H => mv rfl) <| tk (fun W H => ix (j := k) sl_22 sz_3 rfl rfl (by omega)) <| tk (fun W H => ld one_3 rfl ((H.rr a1).i (by omega))) <| tk (fun W H => bi rfl rfl rfl) <| xz <| nx <| ?_
   rcases Bool.eq_false_or_eq_true ((la.getD k 0 : Int) != lb.getD k 0) with hd10 | hd10
   ·have hg11 := bne_iff_ne.1 hd10
    refine ct rfl hd10 <| sq <| rg <| st (sg rfl) <| xe <| nx <| rt <| bt <| tr <| tr <| bt <| tr <| ?_
    have hE : la ≠ lb := fun hc => by have h9 := hd10; rw [hc] at h9; simp at h9
    refine rr (res1 Tryz.results39 rfl) <| ?_
    rw [decide_eq_false hE]; exact ⟨rfl, h⟩
   ·have hg12 := eq_of_bneF hd10
    refine cf rfl hd10 <| sk <| bn <| nx <| rg <| st (mv rfl) <| st (bw rfl rfl (wadd (c := ((k + 1 : Nat) : Int)) (by omega) (by omega) (by omega))) <| st (sg rfl) <| xe <| nx <| ?_
    exact ⟨(k + 1), ⟨rfl, rfl, rfl, trivial⟩, ⟨h, by (try dsimp only); omega, fun i (hi : i < k + 1) => if e : i = k then (by rw [e]; exact eq_of_bneF hd10) else hx i (by omega)⟩, by (try dsimp only); omega⟩
  ·have hg13 := of_decide_eq_false hd4
   refine cf rfl hd4 <| xt <| tx <| tx <| be <| nx <| sq <| rg <| st (sg rfl) <| xe <| nx <| rt <| ?_
   have hE : la = lb := ext_getD 0 hlen (fun i hi => hx i (by omega))
   refine rr (res1 Tryz.results39 rfl) <| ?_
   rw [decide_eq_true hE]; exact ⟨rfl, h⟩
set_option maxRecDepth 100000 in
theorem SameE_any {B w : World} {L : List As} (la lb : List Ct.Ent) (pa pb : Option Addr) (ca cb : Nat) (hl : la.length ≤ 1000000) (h : SH B w (rsl 7 (.slice pa la.length ca) la.length (la.flatMap entC) :: rsl 7 (.slice pb lb.length cb) lb.length (lb.flatMap entC) :: L)) :
  Calls Tryz.prog 41 #[.slice pa la.length ca, .slice pb lb.length cb] w fun e w' => e = .returned (.bool (decide (la = lb))) ∧ SH B w' (rsl 7 (.slice pa la.length ca) la.length (la.flatMap entC) :: rsl 7 (.slice pb lb.length cb) lb.length (lb.flatMap entC) :: L) := by
 refine bgn (args := [_, _]) Tryz.func41 rfl Tryz.ntmps41 rfl ?_
 refine sq <| rg <| st (sg rfl) <| xe <| nx <| sq <| sq <| rg <| st (mv rfl) <| st (ln sl_69 rfl rfl) <| st (mv rfl) <| st (ln sl_69 rfl rfl) <| st (bi rfl rfl rfl) <| xe <| nx <| ?_
 rcases Bool.eq_false_or_eq_true ((((la.length : Nat) : Int) : Int) != ((lb.length : Nat) : Int)) with hd1 | hd1
 ·have hg2 := bne_iff_ne.1 hd1
  refine ct rfl hd1 <| sq <| rg <| st (sg rfl) <| xe <| nx <| rt <| tr <| ?_
  have hE : la ≠ lb := fun hc => by rw [hc] at hd1; simp at hd1
  refine rr (res1 Tryz.results41 rfl) <| ?_
  rw [decide_eq_false hE]; exact ⟨rfl, h⟩
 ·have hlen : la.length = lb.length := by have h9 := eq_of_bneF hd1; omega
  have hg3 := eq_of_bneF hd1
  refine cf rfl hd1 <| sk <| nx <| sq <| sq <| rg <| st (sg rfl) <| xe <| nx <| bk <| ?_
  refine lp (α := Nat) (fun x => (.c 0 (.slice pa la.length ca) (.c 1 (.slice pb lb.length cb) (.c 5 (.int .i64 ((x : Nat) : Int)) .n)))) (fun x w => SH B w (rsl 7 (.slice pa la.length ca) la.length (la.flatMap entC) :: rsl 7 (.slice pb lb.length cb) lb.length (lb.flatMap entC) :: L) ∧ (x ≤ la.length) ∧ (∀ i, i < x → la.getD i {} = lb.getD i {})) (fun x => la.length - x) 0 ⟨rfl, rfl, rfl, trivial⟩ ⟨h, Nat.zero_le _, fun i hi => by omega⟩ ?_
  rintro k w ⟨h, hk, hx⟩
  refine sq <| sq <| rg <| st (mv rfl) <| st (mv rfl) <| st (ln sl_69 rfl rfl) <| st (bi rfl rfl rfl) <| xe <| nx <| ?_
  rcases Bool.eq_false_or_eq_true (decide ((((k : Nat) : Int) : Int) < ((la.length : Nat) : Int))) with hd4 | hd4
  ·have hg5 := of_decide_eq_true hd4
   refine ct rfl hd4 <| sk <| nx <| sq <| bk <| sq <| ?_
   obtain ⟨b6, o7, rfl⟩ := h.fq a0 (by omega)
   obtain ⟨b8, o9, rfl⟩ := h.fq a1 (by omega)
   refine drH [1, 3, 5, 7, 9, 11, 13, 15, 17] (by kernel_rfl) h (.c r0 (.c r0 .n)) fun w h => tk (fun W H => mv rfl) <| tk (fun W H => mv rfl) <| tk (fun W H => ix (j := k) sl_69 sz_75 rfl rfl (by omega)) <| tk (fun W H => ldr rfl ((H.rr a0).x entC_len (by decide) (by omega) {}) row_75) <| tk (fun W H => mv rfl) <| tk (fun W H => mv rfl) <| tk (fun W H => ix (j := k) sl_69 sz_75 rfl rfl (by omega)) <| tk (fun W H => ldr rfl ((H.rr a1).x entC_len (by decide) (by omega) {}) row_75) <| tk (fun W H => bne_ eq_75 rfl rfl rfl rfl) <| xz <| nx <| ?_
   rcases Bool.eq_false_or_eq_true (!aeq (entC (la.getD k {})) (entC (lb.getD k {}))) with hd10 | hd10
   ·have hd11 : (aeq (entC (la.getD k {})) (entC (lb.getD k {}))) = false := by simpa using hd10
    refine ct rfl hd10 <| sq <| rg <| st (sg rfl) <| xe <| nx <| rt <| bt <| tr <| tr <| bt <| tr <| ?_
    have hE : la ≠ lb := fun hc => by have h9 := hd11; rw [hc] at h9; rw [aeqE_iff.2 rfl] at h9; cases h9
    refine rr (res1 Tryz.results41 rfl) <| ?_
    rw [decide_eq_false hE]; exact ⟨rfl, h⟩
   ·have hd12 : (aeq (entC (la.getD k {})) (entC (lb.getD k {}))) = true := by simpa using hd10
    refine cf rfl hd10 <| sk <| bn <| nx <| rg <| st (mv rfl) <| st (bw rfl rfl (wadd (c := ((k + 1 : Nat) : Int)) (by omega) (by omega) (by omega))) <| st (sg rfl) <| xe <| nx <| ?_
    exact ⟨(k + 1), ⟨rfl, rfl, rfl, trivial⟩, ⟨h, by (try dsimp only); omega, fun i (hi : i < k + 1) => if e : i = k then (by rw [e]; exact aeqE_iff.1 (by simpa using hd10)) else hx i (by omega)⟩, by (try dsimp only); omega⟩
  ·have hg13 := of_decide_eq_false hd4
   refine cf rfl hd4 <| xt <| tx <| tx <| be <| nx <| sq <| rg <| st (sg rfl) <| xe <| nx <| rt <| ?_
   have hE : la = lb := ext_getD {} hlen (fun i hi => hx i (by omega))
   refine rr (res1 Tryz.results41 rfl) <| ?_
   rw [decide_eq_true hE]; exact ⟨rfl, h⟩
end Go.Proofs.YtjlgchdekhmnnaaGreatDoor
end
section
namespace Go.E
variable {P : Program} {n : Nat} {K : Post} {e : Tm} {w : World} {ops : Array Oper} {l : List Oper} {S : World → Prop} {ls : List (Oper × Bool)} {B : World} {L L' : List As}
variable {d : Option Tmp} {ty : TypeId} {ps : String} {af : Array Edge} {g : Option (Nat × Bool)}
theorem Upd.self {α : Type} {L L' : List α} {a : α} (u : Upd L L' a a) : L' = L := by
 obtain ⟨k, h1, h2⟩ := u.set
 rw [h2]
 have hl := (List.getElem?_eq_some_iff.1 h1).1
 rw [List.getElem?_eq_getElem hl] at h1
 injection h1 with h1
 rw [← h1, List.set_getElem_self]
theorem apr {t el : TypeId} {ats : Array TypeId} {x y : Operand} {z v : Value} {sz bt m k c q : Nat} {p : Option Addr} {xs news zs : List Value} {L' : Value → List As} (h : SH B w L) (mr : At L (rsl sz (.slice p k c) k news)) (mo : At L (osl el sz v m xs)) (ht : P.underlying t = some (.slice el)) (h0 : ats = #[t, t]) (hz : sizes P el = some (z, sz, bt)) (hzs : z.cells.size = sz) (hsz : 0 < sz)
  (hx : ev n e x = some v) (hy : ev n e y = some (.slice p k c)) (up : ∀ v', Upd L (L' v') (osl el sz v m xs) (osl el sz v' q zs)) (h1 : ∀ u ∈ news, Value.oneCell' u = true) (hq : m + k = q) (hxs : xs ++ news = zs) (h63 : q ≤ maxLen) (hb : q * bt ≤ 140737488355328) :
  F P n e ⟨d, .call ⟨.builtin .append, #[x, y], ats⟩, ty, ps, af, g⟩ w fun v w' => ∃ p c, v = .slice p q c ∧ SH B w' (L' v) := by
 obtain ⟨_, _, hA⟩ := h.at_ mr
 rcases hA.1.2 with ⟨h2, h3⟩ | ⟨b, o, cap, h2, _⟩
 ·injection h2 with e1 e2 e3
  subst e1 e2 e3
  have hn : news = [] := by have := hA.1.1; exact List.eq_nil_of_length_eq_zero (by omega)
  subst hn
  rw [List.append_nil] at hxs
  have hq' : m = q := by omega
  subst hxs hq'
  have e4 := (up v).self
  obtain ⟨pp, cc, hv⟩ := h.fo mo
  exact ⟨v, w, .inl (ap0 h mo ht h0 hz hx hy), pp, cc, hv, by rw [e4]; exact h⟩
 ·injection h2 with e1
  subst e1
  exact ap h ht h0 hz hzs hsz hx hy up (h.rr mr) h1 hq hxs h63 hb
theorem bpe {xt yt el : TypeId} {x y : Operand} {p : Option Addr} (ht : P.underlying xt = some (.pointer el)) (hx : ev n e x = some (.pointer p)) (hy : ev n e y = some (.pointer none)) : Y P n e ⟨d, .binOp .eql xt x y yt, ty, ps, af, g⟩ w (.bool p.isNone) w :=
 bc hx hy (by
  have h := run_eql_pointer_nil (P := P) w xt p (by rw [ht]; simp [Program.pointee, ht])
  simp [eqGuard, h])
variable {op : Op}
def ce (b j : Nat) (v : Value) : As where
 p w O R := w.cell? ⟨b, j, none⟩ = some v ∧ (∀ k, ¬ O k) ∧ ∀ k, R k ↔ k = b
 loc h _ hk := ⟨(World.cell?_of_block (hk b (.inr ((h.2.2 b).2 rfl)))).trans h.1, h.2⟩
 dom {w O R k} h hk := by
  rcases hk with hk | hk
  ·exact absurd hk (h.2.1 _)
  ·rw [(h.2.2 _).1 hk]; exact World.block_lt_of_cell? _ _ h.1
 dis h hk := absurd hk (h.2.1 _)
theorem hN : Hs [] w := fun A m => by cases m
theorem hC {A : As} {F : List As} (h1 : ∃ O R, A.p w O R) (h2 : Hs F w) : Hs (A :: F) w := fun B m => by
 cases m with
 | z => exact h1
 | s m => exact h2 _ m
theorem SH.ceI {b : Nat} {cs : List Value} {t : TypeId} {j : Nat} {v : Value} (h : SH B w L) (m : At L (bl b cs t)) (hj : cs[j]? = some v) : ∃ O R, (ce b j v).p w O R := ⟨fun _ => False, fun k => k = b, h.c m hj, fun _ h => h, fun _ => Iff.rfl⟩
theorem Hs.ce {F : List As} {b j : Nat} {v : Value} (h : Hs F w) (m : At F (Go.E.ce b j v)) : w.cell? ⟨b, j, none⟩ = some v := by
 obtain ⟨_, _, h1⟩ := h _ m; exact h1.1
theorem drC {P : Program} {n : Nat} {K : Post} {e : Tm} {ops : Array Oper} {id : Nat} {F : List As} (is : List Nat) (hc : chkAll P ops (dec is) = true) (h : SH B w L) (p : ∀ w, SH B w L → Hs F w) (k : ∀ w, SH B w L → XS P n ops (Hs F) (opsOf ops (dec is)) K e w) : C P n (.region id ops true) K e w :=
 dr (Hs F) (dec is) hc (p _ h.drew) (k _ h.drew)
end Go.E
end
section
namespace Go.Proofs.YtjlgchdekhmnnaaGreatDoor
open Go.E
theorem sz_73 : (Tryz.prog.info? 73).map (·.size) = some 4 := by kernel_rfl
theorem zc_73 : zc Tryz.prog 73 = some [.int .i64 0, .int .i64 0, .int .i64 0, .int .i64 0] := by kernel_rfl
end Go.Proofs.YtjlgchdekhmnnaaGreatDoor
end
section
namespace Go.Ct
end Go.Ct
namespace Go.Proofs.YtjlgchdekhmnnaaGreatDoor
open Go.RowKit Go.E
end Go.Proofs.YtjlgchdekhmnnaaGreatDoor
end
section
namespace Go.Proofs.YtjlgchdekhmnnaaGreatDoor
open Go.E
theorem bd_73 : bdn Tryz.prog 73 = some ([.int .i64 0, .int .i64 0, .int .i64 0, .int .i64 0], [(0, 1), (1, 1), (2, 1), (3, 1)]) := by kernel_rfl
theorem en_32 : Ents Tryz.prog 32 := enG Tryz.func32 rfl rfl
end Go.Proofs.YtjlgchdekhmnnaaGreatDoor
end
section
namespace Go.Proofs.YtjlgchdekhmnnaaGreatDoor
open Go.RowKit Go.E
theorem Next_x {B w : World} {L : List As} (b : Nat) (l : List Int) (i : Nat) (n : Int) (h0 : 0 < n) (h1 : n ≤ 9223372036854775807) (h : SH B w (tapeA b l i :: L)) :
  Calls Tryz.prog 25 #[.pointer (some ⟨b, 0, none⟩), .int .i64 n] w fun e w' => ∃ v j, e = .returned (.int .i64 v) ∧ (0 ≤ v ∧ v < n) ∧ SH B w' (tapeA b l j :: L) := by
 refine (Next_any b l i n h0 h1 h).mono ?_
 rintro e w' ⟨rfl, h⟩
 refine ⟨_, _, rfl, ?_, h⟩
 unfold nextV
 split
 ·exact Mod_lt _ _ h0
 ·omega
set_option maxRecDepth 100000 in
theorem entries_any {B w : World} {L : List As} (l : List Int) (p : Option Addr) (c : Nat) (xs : List Int) (q : Option Addr) (d : Nat) (hx : xs.length ≤ 1000000) (h : SH B w (rsl 1 (.slice p l.length c) l.length (l.map (Value.int .i64)) :: rsl 1 (.slice q xs.length d) xs.length (xs.map (Value.int .i64)) :: L)) :
  Calls Tryz.prog 32 #[.slice p l.length c, .slice q xs.length d] w fun e w' => ∃ (es : List Ct.Ent) (p9 : Option Addr) (c9 n : Nat), es.length = n ∧ n ≤ 20 ∧ e = .returned (.slice p9 n c9) ∧ SH B w' (rsl 7 (.slice p9 n c9) n (es.flatMap entC) :: rsl 1 (.slice p l.length c) l.length (l.map (Value.int .i64)) :: rsl 1 (.slice q xs.length d) xs.length (xs.map (Value.int .i64)) :: L) := by
 have h := h.du a0
 refine bgn (args := [_, _]) Tryz.func32 rfl Tryz.ntmps32 rfl ?_
 refine sq <| rg <| st (sg rfl) <| xe <| nx <| sq <| rg <| st (mv rfl) <| cl (ca en_13 rfl) ((New_any l p c (h.fr (.c r0 .n))).mono ?_)
 rintro _ w ⟨bt, rfl, h⟩
 refine ⟨_, rfl, ?_⟩
 refine st (sg rfl) <| xe <| nx <| sq <| rg <| sf (bu [] h sl_56 ss_40 rfl (by kernel_rfl) rfl (by decide) (by decide)) <| ?_
 rintro _ w ⟨b1, rfl, h⟩
 refine st (mv rfl) <| sf (apr h a3 a0 sl_56 rfl ss_40 rfl (by decide) rfl rfl (fun _ => u0) (ones_ints _) (Nat.zero_add _) (List.nil_append _) (by unfold maxLen; omega) (by omega)) <| ?_
 rintro _ w ⟨p2, c3, rfl, h⟩
 refine st (sg rfl) <| xe <| nx <| sq <| rg <| st (sg rfl) <| xe <| nx <| sq <| sq <| rg <| st (sg rfl) <| xe <| nx <| bk <| ?_
 have h := SH.nil 75 7 h
 have hlm := h.lm a1
 unfold maxLen at hlm
 refine lp (α := Nat × Nat × List Int × List Ct.Ent × Option Addr × Nat) (fun x => (.c 5 (.pointer (some ⟨bt, 0, none⟩)) (.c 6 (.slice p2 xs.length c3) (.c 7 (.slice x.2.2.2.2.1 x.1 x.2.2.2.2.2) (.c 8 (.int .i64 ((x.1 : Nat) : Int)) .n))))) (fun x w => SH B w (osl 75 7 (.slice x.2.2.2.2.1 x.1 x.2.2.2.2.2) x.1 (x.2.2.2.1.flatMap entC) :: tapeA bt l x.2.1 :: osl 40 1 (.slice p2 xs.length c3) xs.length (x.2.2.1.map (Value.int .i64)) :: rsl 1 (.slice p l.length c) l.length (l.map (Value.int .i64)) :: rsl 1 (.slice q xs.length d) xs.length (xs.map (Value.int .i64)) :: L) ∧ (x.1 ≤ 20) ∧ (x.2.2.1.length = xs.length) ∧ (x.2.2.2.1.length = x.1)) (fun x => 20 - x.1) (0, 0, xs, [], none, 0) ⟨rfl, rfl, rfl, rfl, trivial⟩ ⟨(h.fr (.c r0 (.c r1 (.c r0 (.c r0 (.c r0 .n)))))), Nat.zero_le _, rfl, rfl⟩ ?_
 rintro ⟨k, i, ys, es, p9, c9⟩ w ⟨h, hk, hn, he⟩
 dsimp only at *
 refine sq <| sq <| rg <| st (mv rfl) <| st (bi rfl rfl rfl) <| st (mv rfl) <| ?_
 rcases Bool.eq_false_or_eq_true (decide ((((k : Nat) : Int) : Int) < 20)) with hd4 | hd4
 ·have hg5 := of_decide_eq_true hd4
  refine gT rfl rfl hd4 <| st (mv rfl) <| gT rfl rfl hd4 <| cl (ca en_55 rfl) ((Left_any bt l i (h.fr (.c r1 .n))).mono ?_)
  rintro _ w ⟨rfl, h⟩
  refine ⟨_, rfl, ?_⟩
  refine st (pT rfl hd4 rfl) <| xe <| nx <| ?_
  rcases Bool.eq_false_or_eq_true (decide ((i : Int) < l.length)) with hd6 | hd6
  ·refine ct rfl hd6 <| sk <| nx <| sq <| bk <| sq <| rg <| st (mv rfl) <| cl (ca en_25 rfl) ((Next_x bt l i 3 (by omega) (by omega) (h.fr (.c r0 .n))).mono ?_)
   rintro _ w ⟨v7, i8, rfl, ⟨hv7, gv7⟩, h⟩
   refine ⟨_, rfl, ?_⟩
   refine st (mv rfl) <| cl (ca en_25 rfl) ((Next_x bt l i8 2 (by omega) (by omega) (h.fr (.c r0 .n))).mono ?_)
   rintro _ w ⟨v9, i10, rfl, ⟨hv9, gv9⟩, h⟩
   refine ⟨_, rfl, ?_⟩
   refine st (bw rfl rfl (wadd (c := 1 + v9) (by omega) (by omega) (by omega))) <| st (mv rfl) <| st (mv rfl) <| st (ln sl_56 rfl rfl) <| ?_
   obtain ⟨mm, hmx, hm1, hm2⟩ : ∃ mm : Int, (if (1 : Int) > ((xs.length : Nat) : Int) then (1 : Int) else ((xs.length : Nat) : Int)) = mm ∧ 0 < mm ∧ mm ≤ 1000001 := ⟨_, rfl, by split <;> omega, by split <;> omega⟩
   refine st (mx rfl rfl hmx) <| cl (ca en_25 rfl) ((Next_x bt l i10 mm (by omega) (by omega) (h.fr (.c r0 .n))).mono ?_)
   rintro _ w ⟨v11, i12, rfl, ⟨hv11, gv11⟩, h⟩
   refine ⟨_, rfl, ?_⟩
   refine st (bw rfl rfl (wadd (c := 1 + v11) (by omega) (by omega) (by omega))) <| st (mv rfl) <| cl (ca en_25 rfl) ((Next_x bt l i12 3 (by omega) (by omega) (h.fr (.c r0 .n))).mono ?_)
   rintro _ w ⟨v13, i14, rfl, ⟨hv13, gv13⟩, h⟩
   refine ⟨_, rfl, ?_⟩
   refine st (mv rfl) <| cl (ca en_25 rfl) ((Next_x bt l i14 3 (by omega) (by omega) (h.fr (.c r0 .n))).mono ?_)
   rintro _ w ⟨v15, i16, rfl, ⟨hv15, gv15⟩, h⟩
   refine ⟨_, rfl, ?_⟩
   refine st (bd [.int .i64 (1 + v9), .int .i64 (1 + v11), .int .i64 v13, .int .i64 v15] bd_73 rfl (by kernel_rfl)) <| st (bd [.int .i64 v7, .int .i64 (1 + v9), .int .i64 (1 + v11), .int .i64 v13, .int .i64 v15, .int .i64 0, .bool false] bd_75 rfl (by kernel_rfl)) <| sf (al h zc_75) <| ?_
   rintro _ w ⟨b17, rfl, h⟩
   refine sf (so h rfl rfl rfl sz_75 rfl (.r (.r (.r (.r (.r (.r (.r .d))))))) u0) <| ?_
   rintro _ w h
   refine xe <| nx <| ?_
   refine sm (fun e w => ∃ l1 : Int, ∃ sw : Bool, ∃ zs : List Int, Sub 87 e (.c 5 (.pointer (some ⟨bt, 0, none⟩)) (.c 6 (.slice p2 xs.length c3) (.c 7 (.slice p9 k c9) (.c 8 (.int .i64 ((k : Nat) : Int)) (.c 9 (.pointer (some ⟨b17, 0, none⟩)) (.c 19 (.pointer (some ⟨bt, 0, none⟩)) (.c 20 (.bool (decide ((i : Int) < l.length))) .n))))))) ∧ SH B w (bl b17 ([.int .i64 v7, .int .i64 (1 + v9), .int .i64 (1 + v11), .int .i64 v13, .int .i64 v15, .int .i64 l1, .bool sw]) 75 :: tapeA bt l i16 :: osl 75 7 (.slice p9 k c9) k (es.flatMap entC) :: osl 40 1 (.slice p2 xs.length c3) xs.length (zs.map (Value.int .i64)) :: rsl 1 (.slice p l.length c) l.length (l.map (Value.int .i64)) :: rsl 1 (.slice q xs.length d) xs.length (xs.map (Value.int .i64)) :: L) ∧ (zs.length = xs.length)) ?_ ?_
   ·refine sq <| rg <| st (fa fo_75_1 rfl) <| st (fa fo_73_1 rfl) <| st (ld one_41 rfl (h.c a0 rfl)) <| ?_
    obtain ⟨j, hjj⟩ : ∃ j : Nat, 1 + v11 - 1 = ((j : Nat) : Int) := ⟨(1 + v11 - 1).toNat, by omega⟩
    refine st (bw rfl rfl (wsub (c := ((j : Nat) : Int)) (by omega) (by omega) (by omega))) <| st (sg rfl) <| xe <| nx <| sq <| rg <| st (mv rfl) <| st (mv rfl) <| st (ln sl_56 rfl rfl) <| st (bi rfl rfl rfl) <| xe <| nx <| ?_
    rcases Bool.eq_false_or_eq_true (decide ((((j : Nat) : Int) : Int) < ((xs.length : Nat) : Int))) with hd18 | hd18
    ·have hg19 := of_decide_eq_true hd18
     refine ct rfl hd18 <| sq <| rg <| st (fa fo_75_1 rfl) <| st (fa fo_73_0 rfl) <| st (ld one_3 rfl (h.c a0 rfl)) <| st (bi rfl rfl rfl) <| xe <| nx <| ?_
     rcases Bool.eq_false_or_eq_true ((1 + v9 : Int) == 1) with hd20 | hd20
     ·have hg21 := eq_of_beq hd20
      refine ct rfl hd20 <| rg <| st (mv rfl) <| st (mv rfl) <| ?_
      obtain ⟨b22, rfl⟩ := h.fp a3 (by omega)
      refine st (ix (j := j) sl_56 sz_40 rfl rfl (by omega)) <| st (ld one_40 rfl ((h.ro a3).i (by omega))) <| st (fa fo_75_2 rfl) <| sf (so h rfl rfl rfl sz_40 rfl (.s (.s (.s (.s (.s (.r .d)))))) u0) <| ?_
      rintro _ w h
      refine xe <| nx <| ?_
      exact ⟨ys.getD j 0, false, ys, ⟨rfl, rfl, rfl, rfl, rfl, rfl, rfl, trivial⟩, h, hn⟩
     ·have hg23 := ne_of_beq_false hd20
      refine cf rfl hd20 <| sq <| ?_
      obtain ⟨b24, rfl⟩ := h.fp a3 (by omega)
      refine drC (F := [osl 40 1 (.slice (some ⟨b24, 0, none⟩) xs.length c3) xs.length (ys.map (Value.int .i64)), ce b17 3 (.int .i64 v13)]) [1, 3, 5, 7, 9, 11, 13, 15, 17, 18] (by kernel_rfl) h (fun w h => (hC (h.at_ a3) (hC (h.ceI a0 rfl) hN))) fun w h => tk (fun W H => mv rfl) <| tk (fun W H => mv rfl) <| tk (fun W H => ix (j := j) sl_56 sz_40 rfl rfl (by omega)) <| tk (fun W H => ld one_40 rfl ((H.ro a0).i (by omega))) <| tk (fun W H => fa fo_75_1 rfl) <| tk (fun W H => fa fo_73_2 rfl) <| tk (fun W H => ld one_40 rfl (H.ce a1)) <| tk (fun W H => bi rfl rfl rfl) <| tk (fun W H => fa fo_75_3 rfl) <| ff (so h rfl rfl rfl sz_4 rfl (.s (.s (.s (.s (.s (.s (.r .d))))))) u0) <| ?_
      rintro _ w h
      refine ⟨(hC (h.at_ a3) (hC (h.ceI a0 rfl) hN)), ?_⟩
      refine xz <| nx <| sq <| rg <| st (fa fo_75_3 rfl) <| st (ld one_4 rfl (h.c a0 rfl)) <| xe <| nx <| ?_
      rcases Bool.eq_false_or_eq_true ((ys.getD j 0 : Int) == v13) with hd25 | hd25
      ·have hg26 := eq_of_beq hd25
       refine ct rfl hd25 <| rg <| st (mv rfl) <| st (mv rfl) <| st (fa fo_75_1 rfl) <| st (fa fo_73_3 rfl) <| st (ld one_40 rfl (h.c a0 rfl)) <| st (ix (j := j) sl_56 sz_40 rfl rfl (by omega)) <| sf (soi h sz_40 rfl rfl (by omega) u3) <| ?_
       rintro _ w h
       refine xe <| nx <| ?_
       exact ⟨0, ((ys.getD j 0 : Int) == v13), ys.set j v15, ⟨rfl, rfl, rfl, rfl, rfl, rfl, rfl, trivial⟩, h, by simpa using hn⟩
      ·have hg27 := ne_of_beq_false hd25
       refine cf rfl hd25 <| sk <| nx <| ?_
       exact ⟨0, ((ys.getD j 0 : Int) == v13), ys, ⟨rfl, rfl, rfl, rfl, rfl, rfl, rfl, trivial⟩, h, hn⟩
    ·have hg28 := of_decide_eq_false hd18
     refine cf rfl hd18 <| sk <| nx <| ?_
     exact ⟨0, false, ys, ⟨rfl, rfl, rfl, rfl, rfl, rfl, rfl, trivial⟩, h, hn⟩
   rintro e w ⟨l1, sw, zs, hE, h, hz⟩
   refine C.sub hE ?_
   clear hE e
   refine sm (fun e w => ∃ l2 : Int, ∃ i9 : Nat, Sub 87 e (.c 5 (.pointer (some ⟨bt, 0, none⟩)) (.c 6 (.slice p2 xs.length c3) (.c 7 (.slice p9 k c9) (.c 8 (.int .i64 ((k : Nat) : Int)) (.c 9 (.pointer (some ⟨b17, 0, none⟩)) (.c 19 (.pointer (some ⟨bt, 0, none⟩)) (.c 20 (.bool (decide ((i : Int) < l.length))) .n))))))) ∧ SH B w (bl b17 ([.int .i64 v7, .int .i64 (1 + v9), .int .i64 (1 + v11), .int .i64 v13, .int .i64 v15, .int .i64 l2, .bool sw]) 75 :: tapeA bt l i9 :: osl 75 7 (.slice p9 k c9) k (es.flatMap entC) :: osl 40 1 (.slice p2 xs.length c3) xs.length (zs.map (Value.int .i64)) :: rsl 1 (.slice p l.length c) l.length (l.map (Value.int .i64)) :: rsl 1 (.slice q xs.length d) xs.length (xs.map (Value.int .i64)) :: L)) ?_ ?_
   ·refine sq <| rg <| st (mv rfl) <| cl (ca en_25 rfl) ((Next_x bt l i16 20 (by omega) (by omega) (h.fr (.c r1 .n))).mono ?_)
    rintro _ w ⟨v29, i30, rfl, ⟨hv29, gv29⟩, h⟩
    refine ⟨_, rfl, ?_⟩
    refine st (bi rfl rfl rfl) <| xe <| nx <| ?_
    rcases Bool.eq_false_or_eq_true ((v29 : Int) == 0) with hd31 | hd31
    ·have hg32 := eq_of_beq hd31
     refine ct rfl hd31 <| rg <| st (fa fo_75_2 rfl) <| st (ld one_40 rfl (h.c a1 rfl)) <| st (bi rfl rfl rfl) <| st (fa fo_75_2 rfl) <| sf (so h rfl rfl rfl sz_40 rfl (.s (.s (.s (.s (.s (.r .d)))))) u1) <| ?_
     rintro _ w h
     refine xe <| nx <| ?_
     exact ⟨IntKind.wrap .i64 (l1 + 1), i30, ⟨rfl, rfl, rfl, rfl, rfl, rfl, rfl, trivial⟩, (h.fr (.c r1 (.c r0 (.c r0 (.c r0 (.c r0 (.c r0 .n)))))))⟩
    ·have hg33 := ne_of_beq_false hd31
     refine cf rfl hd31 <| sk <| nx <| ?_
     exact ⟨l1, i30, ⟨rfl, rfl, rfl, rfl, rfl, rfl, rfl, trivial⟩, (h.fr (.c r1 (.c r0 (.c r0 (.c r0 (.c r0 (.c r0 .n)))))))⟩
   rintro e w ⟨l2, i9, hE, h⟩
   refine C.sub hE ?_
   clear hE e
   refine rg <| st (mv rfl) <| st (ldr rfl (rows_all (h.b a0)) row_75) <| sf (bu [.int .i64 v7, .int .i64 (1 + v9), .int .i64 (1 + v11), .int .i64 v13, .int .i64 v15, .int .i64 l2, .bool sw] h sl_69 ss_75 rfl (by kernel_rfl) rfl (by decide) (by decide)) <| ?_
   rintro _ w ⟨b34, rfl, h⟩
   refine sf (ap h sl_69 rfl ss_75 rfl (by decide) rfl rfl (fun _ => u3) (h.ro a0) (by simp [Value.oneCell']) rfl (join_rows (enc := entC) _ (({ thread := v7, acc := { kind := 1 + v9, cell := 1 + v11, old := v13, new := v15 }, loaded := l2, swapped := sw } : Ct.Ent))) (by unfold maxLen; omega) (by omega)) <| ?_
   rintro _ w ⟨p35, c36, rfl, h⟩
   refine st (sg rfl) <| xe <| bn <| nx <| rg <| st (mv rfl) <| st (bw rfl rfl (wadd (c := ((k + 1 : Nat) : Int)) (by omega) (by omega) (by omega))) <| st (sg rfl) <| xe <| nx <| ?_
   exact ⟨(k + 1, i9, zs, es ++ [({ thread := v7, acc := { kind := 1 + v9, cell := 1 + v11, old := v13, new := v15 }, loaded := l2, swapped := sw } : Ct.Ent)], p35, c36), ⟨rfl, rfl, rfl, rfl, trivial⟩, ⟨(h.drop.drop.fr (.c r1 (.c r0 (.c r0 (.c r0 (.c r0 .n)))))), by (try dsimp only); omega, hz, by simp [he]⟩, by (try dsimp only); omega⟩
  ·refine cf rfl hd6 <| xt <| tx <| tx <| be <| nx <| sq <| rg <| st (mv rfl) <| st (sg rfl) <| xe <| nx <| rt <| ?_
   refine rr (res1 Tryz.results32 rfl) <| ⟨es, p9, c9, k, he, by omega, rfl, ((h.fr (.c r0 (.c r1 .n))).drop.drop).fz⟩
 ·have hg37 := of_decide_eq_false hd4
  refine gF rfl rfl hd4 <| gF rfl rfl hd4 <| st (pF rfl hd4 rfl) <| xe <| nx <| cF rfl <| xt <| tx <| tx <| be <| nx <| sq <| rg <| st (mv rfl) <| st (sg rfl) <| xe <| nx <| rt <| ?_
  refine rr (res1 Tryz.results32 rfl) <| ⟨es, p9, c9, k, he, by omega, rfl, ((h.fr (.c r1 (.c r1 .n))).drop.drop).fz⟩
end Go.Proofs.YtjlgchdekhmnnaaGreatDoor
end
