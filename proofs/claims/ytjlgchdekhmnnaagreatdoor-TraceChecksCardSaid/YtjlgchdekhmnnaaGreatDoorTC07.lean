/- Parts of a proof: E7, Tyw. -/
import Derived.Test.YtjlgchdekhmnnaaGreatDoorTC06
import Derived.Laws.Pointers
import Derived.Test.YtjlgchdekhmnnaaGreatDoorTC04
set_option linter.unusedVariables false
set_option linter.unusedSimpArgs false
section
namespace Go.E
variable {P : Program} {n : Nat} {K : Post} {e : Tm} {w : World} {ops : Array Oper} {l : List Oper} {S : World → Prop} {ls : List (Oper × Bool)} {B : World} {L L' : List As}
variable {d : Option Tmp} {ty : TypeId} {ps : String} {af : Array Edge} {g : Option (Nat × Bool)}
theorem Upd.self {α : Type} {L L' : List α} {a : α} (u : Upd L L' a a) : L' = L := by
 obtain ⟨k, h1, h2⟩ := u.set
 rw [h2]
 have hl := (List.getElem?_eq_some_iff.1 h1).1
 rw [List.getElem?_eq_getElem hl] at h1
 injection h1 with h1
 rw [← h1, List.set_getElem_self]
theorem apr {t el : TypeId} {ats : Array TypeId} {x y : Operand} {z v : Value} {sz bt m k c q : Nat} {p : Option Addr} {xs news zs : List Value} {L' : Value → List As} (h : SH B w L) (mr : At L (rsl sz (.slice p k c) k news)) (mo : At L (osl el sz v m xs)) (ht : P.underlying t = some (.slice el)) (h0 : ats = #[t, t]) (hz : sizes P el = some (z, sz, bt)) (hzs : z.cells.size = sz) (hsz : 0 < sz)
  (hx : ev n e x = some v) (hy : ev n e y = some (.slice p k c)) (up : ∀ v', Upd L (L' v') (osl el sz v m xs) (osl el sz v' q zs)) (h1 : ∀ u ∈ news, Value.oneCell' u = true) (hq : m + k = q) (hxs : xs ++ news = zs) (h63 : q ≤ maxLen) (hb : q * bt ≤ 140737488355328) :
  F P n e ⟨d, .call ⟨.builtin .append, #[x, y], ats⟩, ty, ps, af, g⟩ w fun v w' => ∃ p c, v = .slice p q c ∧ SH B w' (L' v) := by
 obtain ⟨_, _, hA⟩ := h.at_ mr
 rcases hA.1.2 with ⟨h2, h3⟩ | ⟨b, o, cap, h2, _⟩
 ·injection h2 with e1 e2 e3
  subst e1 e2 e3
  have hn : news = [] := by have := hA.1.1; exact List.eq_nil_of_length_eq_zero (by omega)
  subst hn
  rw [List.append_nil] at hxs
  have hq' : m = q := by omega
  subst hxs hq'
  have e4 := (up v).self
  obtain ⟨pp, cc, hv⟩ := h.fo mo
  exact ⟨v, w, .inl (ap0 h mo ht h0 hz hx hy), pp, cc, hv, by rw [e4]; exact h⟩
 ·injection h2 with e1
  subst e1
  exact ap h ht h0 hz hzs hsz hx hy up (h.rr mr) h1 hq hxs h63 hb
theorem bbn {xt yt : TypeId} {x y : Operand} {a b : Bool} (ht : P.underlying xt = some .bool) (hx : ev n e x = some (.bool a)) (hy : ev n e y = some (.bool b)) : Y P n e ⟨d, .binOp .neq xt x y yt, ty, ps, af, g⟩ w (.bool (!(a == b))) w :=
 bc hx hy (by have h := run_neq_bool (P := P) (w := w) xt a b ht; simp [eqGuard, h])
theorem bpe {xt yt el : TypeId} {x y : Operand} {p : Option Addr} (ht : P.underlying xt = some (.pointer el)) (hx : ev n e x = some (.pointer p)) (hy : ev n e y = some (.pointer none)) : Y P n e ⟨d, .binOp .eql xt x y yt, ty, ps, af, g⟩ w (.bool p.isNone) w :=
 bc hx hy (by
  have h := run_eql_pointer_nil (P := P) w xt p (by rw [ht]; simp [Program.pointee, ht])
  simp [eqGuard, h])
theorem wantedU {o : Oper} {a : Act} {j t : Nat} {c : Bool} (hg : o.guard = some (j, c)) (hj : (ops[j]?).bind (·.dst) = some t) (ha : Fits n e a) (ht : ev n e (.tmp t) = some undef) : Region.wanted o (yielded ops a.tmps) = false := by
 unfold Region.wanted
 rw [hg]
 have hlt : t < n := (ev_tmp ht).1
 have h1 : a.tmps.getD t undef = undef := by
  have := ha.eval ht; exact this
 have h2 : a.tmps[t]? = some undef := by
  have hs := ha.size
  rw [Array.getD_eq_getD_getElem?, Array.getElem?_eq_getElem (by omega)] at h1
  rw [Array.getElem?_eq_getElem (by omega)]
  exact congrArg some h1
 dsimp only
 unfold yielded
 rw [hj, Option.bind_some, h2]
 cases c <;> rfl
variable {op : Op}
theorem gUs {j t : Nat} {c f : Bool} (hj : (ops[j]?).bind (·.dst) = some t) (ht : ev n e (.tmp t) = some undef) (k : XS P n ops S ls K (Tm.put e d undef) w) : XS P n ops S ((⟨d, op, ty, ps, af, some (j, c)⟩, f) :: ls) K e w := fun a ha => by
 have hw : Region.wanted (⟨d, op, ty, ps, af, some (j, c)⟩ : Oper) (yielded ops a.tmps) = false := wantedU (o := ⟨d, op, ty, ps, af, some (j, c)⟩) rfl hj ha ht
 cases f with
 | true => exact ⟨undef, .inr ⟨hw, rfl⟩, k _ (ha.put _ _)⟩
 | false =>
  unfold wpS
  rw [if_neg (by rw [hw]; simp)]
  exact k _ (ha.put _ _)
def ce (b j : Nat) (v : Value) : As where
 p w O R := w.cell? ⟨b, j, none⟩ = some v ∧ (∀ k, ¬ O k) ∧ ∀ k, R k ↔ k = b
 loc h _ hk := ⟨(World.cell?_of_block (hk b (.inr ((h.2.2 b).2 rfl)))).trans h.1, h.2⟩
 dom {w O R k} h hk := by
  rcases hk with hk | hk
  ·exact absurd hk (h.2.1 _)
  ·rw [(h.2.2 _).1 hk]; exact World.block_lt_of_cell? _ _ h.1
 dis h hk := absurd hk (h.2.1 _)
theorem hN : Hs [] w := fun A m => by cases m
theorem hC {A : As} {F : List As} (h1 : ∃ O R, A.p w O R) (h2 : Hs F w) : Hs (A :: F) w := fun B m => by
 cases m with
 | z => exact h1
 | s m => exact h2 _ m
theorem SH.ceI {b : Nat} {cs : List Value} {t : TypeId} {j : Nat} {v : Value} (h : SH B w L) (m : At L (bl b cs t)) (hj : cs[j]? = some v) : ∃ O R, (ce b j v).p w O R := ⟨fun _ => False, fun k => k = b, h.c m hj, fun _ h => h, fun _ => Iff.rfl⟩
theorem Hs.ce {F : List As} {b j : Nat} {v : Value} (h : Hs F w) (m : At F (Go.E.ce b j v)) : w.cell? ⟨b, j, none⟩ = some v := by
 obtain ⟨_, _, h1⟩ := h _ m; exact h1.1
theorem drC {P : Program} {n : Nat} {K : Post} {e : Tm} {ops : Array Oper} {id : Nat} {F : List As} (is : List Nat) (hc : chkAll P ops (dec is) = true) (h : SH B w L) (p : ∀ w, SH B w L → Hs F w) (k : ∀ w, SH B w L → XS P n ops (Hs F) (opsOf ops (dec is)) K e w) : C P n (.region id ops true) K e w :=
 dr (Hs F) (dec is) hc (p _ h.drew) (k _ h.drew)
end Go.E
end
section
namespace Go.Proofs.YtjlgchdekhmnnaaGreatDoor
open Go.E
theorem sz_73 : (Tryz.prog.info? 73).map (·.size) = some 4 := by kernel_rfl
theorem un_4 : Tryz.prog.underlying 4 = some (.bool) := by kernel_rfl
theorem zc_73 : zc Tryz.prog 73 = some [.int .i64 0, .int .i64 0, .int .i64 0, .int .i64 0] := by kernel_rfl
theorem en_34 : Ents Tryz.prog 34 := enG Tryz.func34 rfl rfl
end Go.Proofs.YtjlgchdekhmnnaaGreatDoor
end
