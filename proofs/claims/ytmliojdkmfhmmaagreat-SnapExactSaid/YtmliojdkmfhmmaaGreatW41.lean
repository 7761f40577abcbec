/- Parts of a proof: Lq, Ayj, Lr, Wv, Ayl, Wa, Lu, Fw. -/
import Derived.Test.YtmliojdkmfhmmaaGreatW40
import Derived.Test.YtmliojdkmfhmmaaGreatW38
import Derived.Test.YtmliojdkmfhmmaaGreatW13
import Derived.Test.YtmliojdkmfhmmaaGreatW14
import Derived.Test.YtmliojdkmfhmmaaGreatW16
import Derived.Test.YtmliojdkmfhmmaaGreatW12
import Derived.Test.YtmliojdkmfhmmaaGreatW28
import Derived.Test.YtmliojdkmfhmmaaGreatW21
import Derived.Test.YtmliojdkmfhmmaaGreatW26
import Derived.Test.YtmliojdkmfhmmaaGreatW30
import Derived.Test.YtmliojdkmfhmmaaGreatW09
import Derived.Test.YtmliojdkmfhmmaaGreatW27
import Derived.Test.YtmliojdkmfhmmaaGreatW31
set_option linter.unusedVariables false
set_option linter.unusedSimpArgs false
set_option maxRecDepth 100000
set_option maxHeartbeats 4000000
section
namespace Go.Proofs.YtmliojdkmfhmmaaGreat
open Go.RowKit Go.E
variable {B w : World} {L : List As}
theorem mi_Node (a : Addr) (w : World) : (method 411 25 (.pointer (some a)) "Node").run Tryz.prog w = .ok (64, .pointer (some a)) w := by kernel_rfl
theorem mi_Alloc (a : Addr) (w : World) : (method 411 25 (.pointer (some a)) "Alloc").run Tryz.prog w = .ok (355, .pointer (some a)) w := by kernel_rfl
theorem mi_NewCell (a : Addr) (w : World) : (method 411 25 (.pointer (some a)) "NewCell").run Tryz.prog w = .ok (358, .pointer (some a)) w := by kernel_rfl
theorem mi_NewGen (a : Addr) (w : World) : (method 411 25 (.pointer (some a)) "NewGen").run Tryz.prog w = .ok (359, .pointer (some a)) w := by kernel_rfl
theorem mi_Load (a : Addr) (w : World) : (method 411 25 (.pointer (some a)) "Load").run Tryz.prog w = .ok (357, .pointer (some a)) w := by kernel_rfl
theorem mi_CAS (a : Addr) (w : World) : (method 411 25 (.pointer (some a)) "CAS").run Tryz.prog w = .ok (356, .pointer (some a)) w := by kernel_rfl
theorem mi_nil (a : Addr) (w : World) : (nilAhead 411 25 (.pointer (some a)) "Alloc").run Tryz.prog w = .ok (some false) w := by kernel_rfl
theorem arMeth (ab : Nat) (w : World) : Meth 25 (pab ab) ab w :=⟨mi_Node _ w,mi_Alloc _ w,mi_NewCell _ w,mi_NewGen _ w,mi_Load _ w,mi_CAS _ w⟩
def arSto (ab : Nat) : Sto :=⟨25,pab ab,ab,[],fun _=>arMeth ab _,fun w=>mi_nil _ w⟩
theorem toSto {ab : Nat} {s : Ct.St} (h : SH B w (arA ab s::L)) : SH B w ((arSto ab).a s::L):=SH.si (S:=arSto ab) (((SH.is (l:=[]) h).fr (.c r1 .n)))
theorem ofSto {ab : Nat} {s : Ct.St} (h : SH B w ((arSto ab).a s::L)) : SH B w (arA ab s::L):=(SH.so (S:=arSto ab) h).fr (.c r0 .n) |>.fr (.c r1 .n) |>.drop
def pxo (z : Ct.Px) : Nat × Ct.Ex:=(z.xb,z.e)
def ppo (z : Ct.Px) : Nat × Nat:=(z.tb,z.xb)
def ppC (a : Nat × Nat) : List Value:=[.pointer (some ⟨a.1,0,none⟩),.pointer (some ⟨a.2,0,none⟩)]
theorem ppC_len (a : Nat × Nat) : (ppC a).length=2:=rfl
def tko (S : Sto) (n : Nat) (z : Ct.Px) : As:=taskA S n z.tb z.u z.k
def tksA (S : Sto) (n : Nat) (ys : List Ct.Px) : As:=se (ys.map (tko S n))
theorem tkGet {S : Sto} {n j : Nat} {ys : List Ct.Px} (hj : j<ys.length) (h : SH B w (tksA S n ys::L)) : SH B w (tko S n ys[j]::tksA S n (ys.eraseIdx j)::L):=by
 have h1:=(SH.se h).fr (.c (rem_map hj) .n)
 have h2 : SH B w ((ys.eraseIdx j).map (tko S n) ++ tko S n ys[j]::L):=SH.back (A:=tko S n ys[j]) h1 rem_app
 exact (SH.is (l:=(ys.eraseIdx j).map (tko S n)) h2).fr (.c r1 .n)
theorem tkPut {S : Sto} {n j : Nat} {ys : List Ct.Px} {z : Ct.Px} (hj : j<ys.length) (h : SH B w (tko S n z::tksA S n (ys.eraseIdx j)::L)) : SH B w (tksA S n (ys.set j z)::L):=by
 have h2 : SH B w ((ys.eraseIdx j).map (tko S n) ++ tko S n z::L):=SH.se (h.fr (.c r1 .n))
 have h3 : SH B w (tko S n z::((ys.eraseIdx j).map (tko S n) ++ L)):=h2.fr (.c rem_app .n)
 exact SH.is (l:=(ys.set j z).map (tko S n)) (SH.back (A:=tko S n z) h3 (rem_mapset hj))
theorem se_map_imp {α : Type} {f g : α→As} (hi : ∀ a w O R,(f a).p w O R→(g a).p w O R) {l : List α} {O R : Nat→Prop} (h : (se (l.map f)).p w O R) : (se (l.map g)).p w O R:=by
 obtain ⟨Os,Rs,h1,h2,h3,h4⟩:=h
 refine ⟨Os,Rs,fun i a ha=>?_,by rw [List.length_map] at h2 ⊢; exact h2,by rw [List.length_map] at h3 ⊢; exact h3,by rw [List.length_map] at h4 ⊢; exact h4⟩
 rw [List.getElem?_map] at ha
 cases hl : l[i]? with
 | none=>rw [hl] at ha; cases ha
 | some x =>
  rw [hl] at ha; injection ha with ha; subst ha
  exact hi x w _ _ (h1 i (f x) (by rw [List.getElem?_map,hl]; rfl))
theorem tkLess {S : Sto} {m n : Nat} {ys : List Ct.Px} (hmn : m≤n) (h : SH B w (tksA S n ys::L)) : SH B w (tksA S m ys::L):=h.imp fun O R=>se_map_imp fun z w O R hz=>by
 obtain ⟨c,hz⟩:=hz
 exact ⟨c,se2_imp hz fun O R=>codeA_less hmn z.u c w O R⟩
theorem tkAdd {S : Sto} {n tb : Nat} {u : Ct.I Ct.Result} {ys : List Ct.Px} {xb : Nat} {e : Ct.Ex} (h : SH B w (taskA S n tb u 0::tksA S n ys::L)) : SH B w (tksA S n (ys ++ [{ tb:=tb,xb:=xb,e:=e,u:=u }])::L):=by
 have h2 : SH B w (ys.map (tko S n) ++ taskA S n tb u 0::L):=SH.se (h.fr (.c r1 .n))
 refine SH.is (l:=(ys ++ [({ tb:=tb,xb:=xb,e:=e,u:=u } : Ct.Px)]).map (tko S n)) ?_
 rw [List.map_append,List.append_assoc]; exact h2
theorem tkNil {S : Sto} {n : Nat} (h : SH B w L) : SH B w (tksA S n []::L):=SH.is (l:=[]) h
theorem getD_el {α : Type} {l : List α} {j : Nat} {d : α} (hj : j<l.length) : l.getD j d=l[j]:=by rw [List.getD_eq_getElem?_getD,List.getElem?_eq_getElem hj]; rfl
theorem pp_at {ys : List Ct.Px} {ps : List (Nat × Nat)} (hps : ys.map ppo=ps) {j : Nat} (hj : j<ys.length) : ps.getD j (0,0)=(ys[j].tb,ys[j].xb):=by
 subst hps; rw [getD_el (by simpa using hj),List.getElem_map]; rfl
theorem px_at {ys : List Ct.Px} {j : Nat} (hj : j<ys.length) : (ys.map pxo)[j]'(by simpa using hj)=(ys[j].xb,ys[j].e):=List.getElem_map ..
theorem set_same {α : Type} {l : List α} {j : Nat} (hj : j<l.length) : l.set j l[j]=l:=by simp
theorem psame_at {S : Sto} {n i k mb : Nat} {g : Ct.Ga} {s : Ct.St} {ys : List Ct.Px} {ps : List (Nat × Nat)} (h : SH B w (tksA S n ys::exsA mb (ys.map pxo)::memA mb s::L)) (hL : Ct.Lkd i g s ys) (hps : ys.map ppo=ps) (hk : k<ys.length) :
  Calls Tryz.prog 52 #[.agg (ppC (ps.getD k (0,0))).toArray] w fun e w'=>e=.returned (.bool true)∧SH B w' (tksA S n ys::exsA mb (ys.map pxo)::memA mb s::L):=by
 have h1:=(h.fr (.c r1 (.c r1 .n)))
 have h2:=SH.exGet (i:=k) (by simpa using hk) h1
 have h3:=tkGet hk (h2.fr (.c r2 .n))
 rw [px_at hk] at h3
 obtain ⟨z1,z2,u',hE⟩:=hL.ex _ (List.getElem_mem hk)
 rw [pp_at hps hk]
 refine (psame_any S n ys[k].tb ys[k].xb mb ys[k].k ys[k].e ys[k].u s (h3.fr (.c r0 (.c r1 .n))) z1 hE.same).mono ?_
 rintro e w' ⟨rfl,h⟩
 refine ⟨rfl,?_⟩
 have h4:=tkPut (z:=ys[k]) hk (h.fr (.c r0 (.c r1 .n)))
 rw [set_same hk] at h4
 have h5:=SH.exPut (i:=k) (zs:=ys.map pxo) (by simpa using hk) (h4.fr (.c r1 (.c r1 .n)))
 rw [show (ys[k].xb,ys[k].e)=(ys.map pxo)[k]'(by simpa using hk) from (px_at hk).symm,set_same] at h5
 exact h5.fr (.c r2 .n)
theorem xdone_at {k mb : Nat} {s : Ct.St} {ys : List Ct.Px} {ps : List (Nat × Nat)} (h : SH B w (exsA mb (ys.map pxo)::memA mb s::L)) (hps : ys.map ppo=ps) (hk : k<ys.length) :
  Calls Tryz.prog 51 #[.pointer (some ⟨(ps.getD k (0,0)).2,0,none⟩)] w fun e w'=>e=.returned (.bool (ys.getD k {}).e.done)∧SH B w' (exsA mb (ys.map pxo)::memA mb s::L):=by
 have h2:=SH.exGet (i:=k) (by simpa using hk) h
 rw [px_at hk] at h2
 rw [pp_at hps hk]
 refine (done_any ys[k].xb mb ⟨ys[k].e,s⟩ h2).mono ?_
 rintro e w' ⟨rfl,h⟩
 have h5:=SH.exPut (i:=k) (zs:=ys.map pxo) (by simpa using hk) h
 rw [show (ys[k].xb,ys[k].e)=(ys.map pxo)[k]'(by simpa using hk) from (px_at hk).symm,set_same] at h5
 exact ⟨by rw [getD_el hk],h5⟩
theorem lstepT {ab m n i k : Nat} {g : Ct.Ga} {s : Ct.St} {ys : List Ct.Px} {ps : List (Nat × Nat)} (h : SH B w (tksA (arSto ab) m ys::(arSto ab).a s::L)) (hm : m=n+1) (hL : Ct.Lkd i g s ys) (hi : i≤1000) (hps : ys.map ppo=ps) (hk : k<ys.length) (hd : ys[k].e.done=false) :
  Calls Tryz.prog 54 #[.pointer (some ⟨(ps.getD k (0,0)).1,0,none⟩)] w fun e w'=>e=.returned (.tuple #[])∧SH B w' (tksA (arSto ab) n (ys.set k (ys[k].next s))::(arSto ab).a ((ys[k].u).step s).1::L):=by
 subst hm
 obtain ⟨z1,z2,u',hE⟩:=hL.ex _ (List.getElem_mem hk)
 have h2:=tkGet hk h
 rw [pp_at hps hk]
 have hu : ys[k].u.ended=none:=by
  have:=hE.same.1; rw [hd] at this
  cases hq : ys[k].u.ended with
  | none=>rfl
  | some r=>rw [hq] at this; cases this
 have hs:=hL.size
 refine (tStep_any (arSto ab) (arMeth ab) n ys[k].tb ys[k].k ys[k].u s (h2.fr (.c r0 (.c r1 .n))) ⟨hL.fit,by unfold Ct.roomMax; omega⟩ hu (by omega)).mono ?_
 rintro e w' ⟨rfl,h⟩
 have h3:=tkLess (Nat.le_succ n) (h.fr (.c r2 .n))
 exact ⟨rfl,(tkPut (z:=ys[k].next s) hk (h3.fr (.c r1 (.c r0 .n))))⟩
theorem lstepX {i k mb : Nat} {g : Ct.Ga} {s : Ct.St} {ys : List Ct.Px} {ps : List (Nat × Nat)} (h : SH B w (exsA mb (ys.map pxo)::memA mb s::L)) (hL : Ct.Lkd i g s ys) (hi : i≤1000) (hps : ys.map ppo=ps) (hk : k<ys.length) (hd : ys[k].e.done=false) :
  Calls Tryz.prog 48 #[.pointer (some ⟨(ps.getD k (0,0)).2,0,none⟩)] w fun e w'=>∃ g',Ct.Lkd (i+1) g' (((ys[k].u).step s).1) (ys.set k (ys[k].next s))∧e=.returned (.tuple #[])∧SH B w' (exsA mb ((ys.set k (ys[k].next s)).map pxo)::memA mb ((ys[k].u).step s).1::L):=by
 have h2:=SH.exGet (i:=k) (by simpa using hk) h
 rw [px_at hk] at h2
 rw [pp_at hps hk]
 obtain ⟨a1,a2,a3,a4,a5,a6⟩:=hL.ready hi (List.getElem_mem hk)
 refine (step_n ys[k].xb mb ⟨ys[k].e,s⟩ Ct.FU h2 hd a1 a2 (by decide) a3 a4 a5 a6).mono ?_
 rintro e w' ⟨rfl,h,hok⟩
 obtain ⟨q1,g',q2⟩:=hL.step hi hk hd hok
 have h5:=SH.exPut (i:=k) (zs:=ys.map pxo) (by simpa using hk) h
 rw [q1]
 refine ⟨g',q2,rfl,?_⟩
 rw [List.map_set]; exact h5
theorem pps_set {s : Ct.St} {ys : List Ct.Px} {ps : List (Nat × Nat)} (hps : ys.map ppo=ps) {k : Nat} (hk : k<ys.length) : (ys.set k (ys[k].next s)).map ppo=ps:=by
 rw [List.map_set,← hps]
 have : ppo (ys[k].next s)=(ys.map ppo)[k]'(by simpa using hk):=by rw [List.getElem_map]; rfl
 rw [this,set_same]
theorem sstate_any (ab : Nat) (s : Ct.St) (h : SH B w ((arSto ab).a s::L)) (hr : s.size≤100000000000) (hf : Ct.AllFit s) :
  Calls Tryz.prog 25 #[.pointer (some ⟨ab,0,none⟩)] w fun e w'=>∃ pn cn pc cc zs,zs.map Prod.fst=nodesOf s∧e=.returned (.agg [.slice pn zs.length cn,.slice pc s.cells.length cc,.int .i64 ((s.gen : Nat) : Int)].toArray)∧SH B w' (osl 77 14 (.slice pn zs.length cn) zs.length (zs.flatMap nodeP)::osl 36 1 (.slice pc s.cells.length cc) s.cells.length (s.cells.map (Value.int .i64))::nodesF zs::(arSto ab).a s::L):=by
 refine (state_any ab s (ofSto h) hr hf).mono ?_
 rintro e w' ⟨pn,cn,pc,cc,zs,hz,rfl,h⟩
 exact ⟨pn,cn,pc,cc,zs,hz,rfl,(toSto (h.fr (.c r3 .n))).fr (.c r1 (.c r1 (.c r1 .n)))⟩
end Go.Proofs.YtmliojdkmfhmmaaGreat
end
section
namespace Go.Proofs.YtmliojdkmfhmmaaGreat
open Go.E
theorem row_56 : rowN Tryz.prog 56 = some 2:=by kernel_rfl
theorem sl_87 : Tryz.prog.underlying 87 = some (.slice 56):=by kernel_rfl
theorem sz_56 : (Tryz.prog.info? 56).map (·.size)=some 2:=by kernel_rfl
theorem zc_56 : zc Tryz.prog 56 = some [.pointer none,.pointer none]:=by kernel_rfl
theorem en_16 : Ents Tryz.prog 16:=enG Tryz.func16 rfl rfl
theorem en_53 : Ents Tryz.prog 53:=enG Tryz.func53 rfl rfl
end Go.Proofs.YtmliojdkmfhmmaaGreat
end
section
namespace Go.Proofs.YtmliojdkmfhmmaaGreat
attribute [local irreducible] Go.E.wpL Go.E.wpS Go.E.X Go.E.XS Go.E.C Go.E.thn Go.E.blk Go.E.fin Go.E.Y Go.E.U Go.E.F Go.E.Ca Go.E.Res Go.E.bl Go.E.rb Go.E.osl Go.E.rsl Go.E.ex Go.E.ce Go.E.pu Go.E.sK Go.E.gK Go.E.bK Go.E.zK Go.E.boxA Go.E.cloA Go.E.codeA clA cdA klA
open Go.RowKit Go.E
theorem nodes_small {s : Ct.St} (hf : Ct.AllFit s) (hr : s.size≤100000000000) : ∀ n ∈ nodesOf s,n.branches.length≤1000000∧n.pairs.length≤200000000000∧n.bitmap<18446744073709551616:=by
 have hm : Ct.markNode.branches.length≤1000000∧Ct.markNode.pairs.length≤200000000000∧Ct.markNode.bitmap<18446744073709551616:=by decide
 intro n m
 unfold nodesOf at m
 rcases List.mem_cons.1 m with rfl | m
 ·exact hm
 ·rcases List.mem_cons.1 m with rfl | m
  ·exact hm
  ·have h:=hf n m
   have h1:=fit_lens h (by unfold Ct.St.size at hr; omega)
   exact ⟨h1.1,h1.2,h.1.2.2.1⟩
variable {B w : World} {L : List As}
theorem lnext_any (mb tb : Nat) (s : Ct.St) (ys : List Ct.Px) (ps : List (Nat × Nat)) (pk : List Int) (ppl : Option Addr) (cpl : Nat) (h : SH B w (exsA mb (ys.map pxo)::memA mb s::rsl 2 (.slice ppl ps.length cpl) ps.length (ps.flatMap ppC)::tapE tb pk::L)) (hps : ys.map ppo=ps) (h0 : 0<ps.length) (h1 : ps.length≤100) :
  Calls Tryz.prog 53 #[.slice ppl ps.length cpl,.pointer (some ⟨tb,0,none⟩)] w fun e w'=>∃ k : Int,(0≤k→∃ j : Nat,∃ hj : j<ys.length,k=((j : Nat) : Int)∧ys[j].e.done=false)∧e=.returned (.int .i64 k)∧SH B w' (exsA mb (ys.map pxo)::memA mb s::rsl 2 (.slice ppl ps.length cpl) ps.length (ps.flatMap ppC)::tapE tb pk::L):=by
 have hyl : ys.length=ps.length:=by rw [← hps,List.length_map]
 refine bn0 Tryz.func53 Tryz.ntmps53 h fun w h=>?_
 refine j100 (left_e _ _ h.to) fun lf1 w h=>?_
 refine qc h (fun hd2 w h=>?_) fun hd2 w h=>?_
 ·refine j110 (next_e _ _ _ h.to (by omega) (by omega)) fun j3 hjj3 w h=>?_
  obtain ⟨b4,o5,rfl⟩:=h.fq a3 (by omega)
  refine go h fun w h=>?_
  refine st (ld One.h rfl ((h.rr a3).x ppC_len (by decide) (by omega) (0,0) 1 _ rfl))<|go h fun w h=>?_
  refine j000 (xdone_at (k:=j3) h.to hps (by omega)) fun w h=>?_
  refine qc h (fun hd6 w h=>?_) fun hd6 w h=>?_
  ·have hd7 : (ys.getD j3 {}).e.done=false:=(Bool.not_eq_true' _).mp hd6
   refine go h fun w h=>?_
   exact rz ⟨_,(fun _=>⟨j3,by omega,rfl,by rw [← getD_el (d:={}) (by omega)]; exact hd7⟩),rfl,h.to⟩
  ·have hd8 : (ys.getD j3 {}).e.done=true:=(Bool.not_eq_false' _).mp hd6
   refine go h fun w h=>?_
   refine lp (α:=Nat) (fun ρ=>(.c 0 (.slice (some ⟨b4,o5,none⟩) ps.length cpl) (.c 22 (.int .i64 ((ps.length : Nat) : Int)) (.c 23 (.int .i64 ((ρ : Nat) : Int)) .n)))) (fun ρ w=>SH B w (exsA mb (ys.map pxo)::memA mb s::tapE tb pk::rsl 2 (.slice (some ⟨b4,o5,none⟩) ps.length cpl) ps.length (ps.flatMap ppC)::L)∧(ρ≤ps.length)) (fun ρ=>ps.length - ρ) 0 ⟨rfl,rfl,rfl,trivial⟩ ⟨h,Nat.zero_le _⟩ ?_
   rintro k w ⟨h,hk⟩
   refine go h fun w h=>?_
   refine qc h (fun hd9 w h=>?_) fun hd9 w h=>?_
   ·have hg10:=of_decide_eq_true hd9
    refine go h fun w h=>?_
    refine st (ld One.h rfl ((h.rr a3).x ppC_len (by decide) (by omega) (0,0) 1 _ rfl))<|go h fun w h=>?_
    refine j000 (xdone_at (k:=k) h.to hps (by omega)) fun w h=>?_
    refine qc h (fun hd11 w h=>?_) fun hd11 w h=>?_
    ·have hd12 : (ys.getD k {}).e.done=false:=(Bool.not_eq_true' _).mp hd11
     refine go h fun w h=>?_
     exact rz ⟨_,(fun _=>⟨k,by omega,rfl,by rw [← getD_el (d:={}) (by omega)]; exact hd12⟩),rfl,h.to⟩
    ·have hd13 : (ys.getD k {}).e.done=true:=(Bool.not_eq_false' _).mp hd11
     refine go h fun w h=>?_
     exact ⟨(k+1),⟨rfl,rfl,rfl,trivial⟩,⟨h,by (try dsimp only); omega⟩,by (try dsimp only); omega⟩
   ·have hg14:=of_decide_eq_false hd9
    refine go h fun w h=>?_
    exact rz ⟨-1,(fun q=>absurd q (by decide)),rfl,h.to⟩
 ·refine lp (α:=Nat) (fun ρ=>(.c 0 (.slice ppl ps.length cpl) (.c 22 (.int .i64 ((ps.length : Nat) : Int)) (.c 23 (.int .i64 ((ρ : Nat) : Int)) .n)))) (fun ρ w=>SH B w (tapE tb pk::exsA mb (ys.map pxo)::memA mb s::rsl 2 (.slice ppl ps.length cpl) ps.length (ps.flatMap ppC)::L)∧(ρ≤ps.length)) (fun ρ=>ps.length - ρ) 0 ⟨rfl,rfl,rfl,trivial⟩ ⟨h,Nat.zero_le _⟩ ?_
  rintro k w ⟨h,hk⟩
  refine go h fun w h=>?_
  refine qc h (fun hd15 w h=>?_) fun hd15 w h=>?_
  ·have hg16:=of_decide_eq_true hd15
   refine go h fun w h=>?_
   obtain ⟨b17,o18,rfl⟩:=h.fq a3 (by omega)
   refine go h fun w h=>?_
   refine st (ld One.h rfl ((h.rr a3).x ppC_len (by decide) (by omega) (0,0) 1 _ rfl))<|go h fun w h=>?_
   refine j000 (xdone_at (k:=k) h.to hps (by omega)) fun w h=>?_
   refine qc h (fun hd19 w h=>?_) fun hd19 w h=>?_
   ·have hd20 : (ys.getD k {}).e.done=false:=(Bool.not_eq_true' _).mp hd19
    refine go h fun w h=>?_
    exact rz ⟨_,(fun _=>⟨k,by omega,rfl,by rw [← getD_el (d:={}) (by omega)]; exact hd20⟩),rfl,h.to⟩
   ·have hd21 : (ys.getD k {}).e.done=true:=(Bool.not_eq_false' _).mp hd19
    refine go h fun w h=>?_
    exact ⟨(k+1),⟨rfl,rfl,rfl,trivial⟩,⟨h.to,by (try dsimp only); omega⟩,by (try dsimp only); omega⟩
  ·have hg22:=of_decide_eq_false hd15
   refine go h fun w h=>?_
   exact rz ⟨-1,(fun q=>absurd q (by decide)),rfl,h.to⟩
section
attribute [local semireducible] Go.E.wpL Go.E.wpS Go.E.X Go.E.XS Go.E.C Go.E.thn Go.E.blk Go.E.fin Go.E.Y Go.E.U Go.E.F Go.E.Ca Go.E.Res Go.E.bl Go.E.rb Go.E.osl Go.E.rsl Go.E.ex Go.E.ce Go.E.pu Go.E.sK Go.E.gK Go.E.bK Go.E.zK Go.E.boxA Go.E.cloA Go.E.codeA clA cdA klA
attribute [local irreducible] Go.E.wpL Go.E.wpS
variable {B w : World} {L : List As}
theorem lrun_any (ab mb : Nat) (g : Ct.Ga) (s : Ct.St) (ys : List Ct.Px) (ps : List (Nat × Nat)) (pk : List Int) (ppl pp : Option Addr) (cpl cp : Nat) (h : SH B w (tksA (arSto ab) 400 ys::exsA mb (ys.map pxo)::memA mb s::(arSto ab).a s::rsl 2 (.slice ppl ps.length cpl) ps.length (ps.flatMap ppC)::rsl 1 (.slice pp pk.length cp) pk.length (pk.map (Value.int .i64))::L)) (hL : Ct.Lkd 0 g s ys) (hps : ys.map ppo=ps) (h0 : 0<ps.length) (h1 : ps.length≤100) :
  Calls Tryz.prog 16 #[.pointer (some ⟨ab,0,none⟩),.pointer (some ⟨mb,0,none⟩),.slice pp pk.length cp,.slice ppl ps.length cpl] w fun e w'=>∃ s',Ct.AllFit s'∧s'.size≤38100000000∧e=.returned (.bool true)∧SH B w' (memA mb s'::(arSto ab).a s'::L):=by
 refine bgn (args:=[_,_,_,_]) Tryz.func16 rfl Tryz.ntmps16 rfl ?_
 refine sq<|rg<|st (sg rfl)<|xe<|nx<|sq<|rg<|st (mv rfl)<|cl (ca en_14 rfl) ((new_e pk _ _ (h.fr (.c r5 .n))).mono ?_)
 rintro _ w ⟨tb,rfl,h⟩
 refine ⟨_,rfl,?_⟩
 refine st (sg rfl)<|xe<|nx<|sq<|sq<|rg<|st (sg rfl)<|xe<|nx<|bk<|?_
 refine lp (α:=Nat × Ct.Ga × Ct.St × List Ct.Px) (fun ρ=>(.c 0 (.pointer (some ⟨ab,0,none⟩)) (.c 1 (.pointer (some ⟨mb,0,none⟩)) (.c 3 (.slice ppl ps.length cpl) (.c 9 (.pointer (some ⟨tb,0,none⟩)) (.c 10 (.int .i64 ((ρ.1 : Nat) : Int)) .n)))))) (fun ρ w=>SH B w (tksA (arSto ab) (400 - ρ.1) ρ.2.2.2::exsA mb (ρ.2.2.2.map pxo)::memA mb ρ.2.2.1::(arSto ab).a ρ.2.2.1::rsl 2 (.slice ppl ps.length cpl) ps.length (ps.flatMap ppC)::tapE tb pk::L)∧(Ct.Lkd ρ.1 ρ.2.1 ρ.2.2.1 ρ.2.2.2)∧(ρ.2.2.2.map ppo=ps)∧(ρ.1≤400)) (fun ρ=>400 - ρ.1) (0,g,s,ys) ⟨rfl,rfl,rfl,rfl,rfl,trivial⟩ ⟨(h.fr (.c r1 (.c r1 (.c r1 (.c r1 (.c r1 (.c r0 .n))))))),hL,hps,(Nat.zero_le _)⟩ ?_
 rintro ⟨i,g,s,ys⟩ w ⟨h,hL,hps,hi⟩
 dsimp only at *
 refine sq<|sq<|rg<|st (mv rfl)<|st (bi rfl rfl rfl)<|xe<|nx<|?_
 rcases Bool.eq_false_or_eq_true (decide ((((i : Nat) : Int) : Int)<400)) with hd1 | hd1
 ·have hg2:=of_decide_eq_true hd1
  refine ct rfl hd1<|sk<|nx<|sq<|bk<|sq<|sq<|rg<|st (mv rfl)<|st (ln sl_87 rfl rfl)<|st (mv rfl)<|xe<|nx<|bk<|?_
  have hyl : ys.length=ps.length:=by rw [← hps,List.length_map]
  refine lp (α:=Nat) (fun ρ=>(.c 0 (.pointer (some ⟨ab,0,none⟩)) (.c 1 (.pointer (some ⟨mb,0,none⟩)) (.c 3 (.slice ppl ps.length cpl) (.c 9 (.pointer (some ⟨tb,0,none⟩)) (.c 10 (.int .i64 ((i : Nat) : Int)) (.c 20 (.slice ppl ps.length cpl) (.c 21 (.int .i64 ((ps.length : Nat) : Int)) (.c 22 (.int .i64 ((ρ : Nat) : Int)) .n))))))))) (fun ρ w=>SH B w (tksA (arSto ab) (400 - i) ys::exsA mb (ys.map pxo)::memA mb s::(arSto ab).a s::rsl 2 (.slice ppl ps.length cpl) ps.length (ps.flatMap ppC)::tapE tb pk::L)∧(ρ≤ps.length)) (fun ρ=>ps.length - ρ) 0 ⟨rfl,rfl,rfl,rfl,rfl,rfl,rfl,rfl,trivial⟩ ⟨h,Nat.zero_le _⟩ ?_
  rintro k w ⟨h,hk⟩
  refine sq<|rg<|st (bi rfl rfl rfl)<|xe<|nx<|sq<|?_
  rcases Bool.eq_false_or_eq_true (decide ((((k : Nat) : Int) : Int)<((ps.length : Nat) : Int))) with hd3 | hd3
  ·have hg4:=of_decide_eq_true hd3
   refine ct rfl hd3<|sk<|nx<|sq<|bk<|sq<|rg<|?_
   obtain ⟨b5,o6,rfl⟩:=h.fq a4 (by omega)
   refine st (ix (j:=k) sl_87 sz_56 rfl rfl (by omega))<|st (ldr rfl ((h.rr a4).x ppC_len (by decide) (by omega) (0,0)) row_56)<|sf (al h zc_56)<|?_
   rintro _ w ⟨b7,rfl,h⟩
   refine sf (so h rfl rfl rfl sz_56 rfl (.r (.r .d)) u0)<|?_
   rintro _ w h
   refine xe<|nx<|sq<|rg<|st (ldr rfl (rows_all (h.b a0)) row_56)<|cl (ca en_52 rfl) ((psame_at (k:=k) (h.fr (.c r1 (.c r1 (.c r1 .n)))) hL hps (by omega)).mono ?_)
   rintro _ w ⟨rfl,h⟩
   refine ⟨_,rfl,?_⟩
   refine st (nt rfl)<|xe<|nx<|cF rfl<|sk<|bn<|nx<|rg<|st (bw rfl rfl (wadd (c:=((k+1 : Nat) : Int)) (by omega) (by omega) (by omega)))<|st (mv rfl)<|xe<|nx<|?_
   exact ⟨(k+1),⟨rfl,rfl,rfl,rfl,rfl,rfl,rfl,rfl,trivial⟩,⟨(h.fr (.c r3 .n)).drop,by (try dsimp only); omega⟩,by (try dsimp only); omega⟩
  ·have hg8:=of_decide_eq_false hd3
   refine cf rfl hd3<|xt<|tx<|tx<|be<|nx<|?_
   refine sm (fun e w=>Sub 71 e (.c 0 (.pointer (some ⟨ab,0,none⟩)) (.c 1 (.pointer (some ⟨mb,0,none⟩)) (.c 3 (.slice ppl ps.length cpl) (.c 9 (.pointer (some ⟨tb,0,none⟩)) (.c 10 (.int .i64 ((i : Nat) : Int)) .n)))))∧SH B w (tksA (arSto ab) (400 - i) ys::exsA mb (ys.map pxo)::memA mb s::(arSto ab).a s::rsl 2 (.slice ppl ps.length cpl) ps.length (ps.flatMap ppC)::tapE tb pk::L)) ?_ ?_
   ·refine sq<|?_
    have hrz : s.size≤100000000000:=by have:=hL.size; omega
    have hfz:=nodes_small hL.fit hrz
    have h:=h.fr (.c r2 .n)
    obtain ⟨⟨pn,cn,pc,cc,zs⟩,hz0,h⟩:=h.mo
    have h : SH B w (bl mb ([.slice pn zs.length cn,.slice pc s.cells.length cc,.int .i64 ((s.gen : Nat) : Int),.int .i64 ((s.acc : Nat) : Int)]) 64::osl 77 14 (.slice pn zs.length cn) zs.length (zs.flatMap nodeP)::osl 36 1 (.slice pc s.cells.length cc) s.cells.length (s.cells.map (Value.int .i64))::nodesF zs::tksA (arSto ab) (400 - i) ys::exsA mb (ys.map pxo)::(arSto ab).a s::rsl 2 (.slice ppl ps.length cpl) ps.length (ps.flatMap ppC)::tapE tb pk::L):=h
    have hzs : zs.map Prod.fst=nodesOf s:=hz0
    clear hz0
    rcases Bool.eq_false_or_eq_true (decide ((((i : Nat) : Int) : Int)<60)) with hd9 | hd9
    ·have hg10:=of_decide_eq_true hd9
     refine drH [1,3,5,7,9,11,13,15,17,21,23,25,27,18,28,31,33] (by kernel_rfl) h (.c r0 .n) fun w h=>tk (fun W H=>mv rfl)<|tk (fun W H=>bi rfl rfl rfl)<|tk (fun W H=>mv rfl)<|gFs rfl rfl hd9<|gFs rfl rfl hd9<|gFs rfl rfl hd9<|tk (fun W H=>pT rfl hd9 rfl)<|tk (fun W H=>mv rfl)<|gTs rfl rfl rfl<|tk (fun W H=>mv rfl)<|gTs rfl rfl rfl<|tk (fun W H=>mv rfl)<|gTs rfl rfl rfl<|tk (fun W H=>nc rfl rfl)<|gTs rfl rfl rfl<|tk (fun W H=>fa fo_64_0 rfl)<|gTs rfl rfl rfl<|tk (fun W H=>ldr (cs:=[.slice pn zs.length cn,.slice pc s.cells.length cc,.int .i64 ((s.gen : Nat) : Int)]) rfl (rows_of (H.b a0) 0 rfl) row_62)<|gTs rfl rfl rfl<|cs (ca en_25 rfl) ((sstate_any ab s (h.fr (.c r6 .n)) hrz hL.fit).mono ?_)
     rintro _ w ⟨pnz12,cnz13,pcz14,ccz15,zz11,hzz16,rfl,h⟩
     refine ⟨_,rfl,h.hs (.c r4 .n),?_⟩
     refine gTs rfl rfl rfl<|cs (ca en_40 rfl) ((same_any s _ _ _ _ _ _ _ _ _ _ (h.fr (.c r0 (.c r0 (.c r0 (.c r2 (.c r2 (.c r2 .n))))))) hzz16 hzs hrz hfz).mono ?_)
     rintro _ w ⟨rfl,h⟩
     refine ⟨_,rfl,h.hs (.c r4 .n),?_⟩
     refine gTs rfl rfl rfl<|tk (fun W H=>nt rfl)<|tk (fun W H=>pT rfl rfl rfl)<|xz<|nx<|cF rfl<|sk<|nx<|?_
     have h:=SH.mi ⟨_,_,_,_,_⟩ hzs (h.fr (.c r4 (.c r0 (.c r0 (.c r0 .n)))))
     exact ⟨⟨rfl,rfl,rfl,rfl,rfl,trivial⟩,(h.fr (.c r2 (.c r2 (.c r0 (.c r0 (.c r0 (.c r0 .n)))))))⟩
    ·have hg17:=of_decide_eq_false hd9
     rcases Bool.eq_false_or_eq_true (((((i : Nat) : Int)).tmod (16) : Int)==0) with hd18 | hd18
     ·have hg19:=eq_of_beq hd18
      refine drH [1,3,5,7,9,11,13,15,17,21,23,25,27,18,28,31,33] (by kernel_rfl) h (.c r0 .n) fun w h=>tk (fun W H=>mv rfl)<|tk (fun W H=>bi rfl rfl rfl)<|tk (fun W H=>mv rfl)<|gTs rfl rfl hd9<|tk (fun W H=>mv rfl)<|gTs rfl rfl hd9<|tk (fun W H=>br rfl rfl (by omega))<|gTs rfl rfl hd9<|tk (fun W H=>bi rfl rfl rfl)<|tk (fun W H=>pF rfl hd9 rfl)<|tk (fun W H=>mv rfl)<|gTs rfl rfl hd18<|tk (fun W H=>mv rfl)<|gTs rfl rfl hd18<|tk (fun W H=>mv rfl)<|gTs rfl rfl hd18<|tk (fun W H=>nc rfl rfl)<|gTs rfl rfl hd18<|tk (fun W H=>fa fo_64_0 rfl)<|gTs rfl rfl hd18<|tk (fun W H=>ldr (cs:=[.slice pn zs.length cn,.slice pc s.cells.length cc,.int .i64 ((s.gen : Nat) : Int)]) rfl (rows_of (H.b a0) 0 rfl) row_62)<|gTs rfl rfl hd18<|cs (ca en_25 rfl) ((sstate_any ab s (h.fr (.c r6 .n)) hrz hL.fit).mono ?_)
      rintro _ w ⟨pnz21,cnz22,pcz23,ccz24,zz20,hzz25,rfl,h⟩
      refine ⟨_,rfl,h.hs (.c r4 .n),?_⟩
      refine gTs rfl rfl hd18<|cs (ca en_40 rfl) ((same_any s _ _ _ _ _ _ _ _ _ _ (h.fr (.c r0 (.c r0 (.c r0 (.c r2 (.c r2 (.c r2 .n))))))) hzz25 hzs hrz hfz).mono ?_)
      rintro _ w ⟨rfl,h⟩
      refine ⟨_,rfl,h.hs (.c r4 .n),?_⟩
      refine gTs rfl rfl hd18<|tk (fun W H=>nt rfl)<|tk (fun W H=>pT rfl hd18 rfl)<|xz<|nx<|cF rfl<|sk<|nx<|?_
      have h:=SH.mi ⟨_,_,_,_,_⟩ hzs (h.fr (.c r4 (.c r0 (.c r0 (.c r0 .n)))))
      exact ⟨⟨rfl,rfl,rfl,rfl,rfl,trivial⟩,(h.fr (.c r2 (.c r2 (.c r0 (.c r0 (.c r0 (.c r0 .n)))))))⟩
     ·have hg26:=ne_of_beq_false hd18
      refine drH [1,3,5,7,9,11,13,15,17,21,23,25,27,18,28,31,33] (by kernel_rfl) h .n fun w h=>tk (fun W H=>mv rfl)<|tk (fun W H=>bi rfl rfl rfl)<|tk (fun W H=>mv rfl)<|gTs rfl rfl hd9<|tk (fun W H=>mv rfl)<|gTs rfl rfl hd9<|tk (fun W H=>br rfl rfl (by omega))<|gTs rfl rfl hd9<|tk (fun W H=>bi rfl rfl rfl)<|tk (fun W H=>pF rfl hd9 rfl)<|tk (fun W H=>mv rfl)<|gFs rfl rfl hd18<|gFs rfl rfl hd18<|gFs rfl rfl hd18<|gFs rfl rfl hd18<|gFs rfl rfl hd18<|gFs rfl rfl hd18<|gFs rfl rfl hd18<|gFs rfl rfl hd18<|tk (fun W H=>pF rfl hd18 rfl)<|xz<|nx<|cF rfl<|sk<|nx<|?_
      have h:=SH.mi ⟨_,_,_,_,_⟩ hzs (h.fr (.c r0 (.c r0 (.c r0 (.c r0 .n)))))
      exact ⟨⟨rfl,rfl,rfl,rfl,rfl,trivial⟩,(h.fr (.c r1 (.c r1 (.c r0 (.c r0 (.c r0 (.c r0 .n)))))))⟩
   rintro e w ⟨hE,h⟩
   refine C.sub hE ?_
   clear hE e
   refine sq<|rg<|st (mv rfl)<|st (mv rfl)<|cl (ca en_53 rfl) ((lnext_any mb tb s ys ps pk ppl cpl (h.fr (.c r1 (.c r1 (.c r2 (.c r2 .n))))) hps h0 h1).mono ?_)
   rintro _ w ⟨kk27,hkk28,rfl,h⟩
   refine ⟨_,rfl,?_⟩
   refine st (sg rfl)<|xe<|nx<|sq<|sq<|rg<|st (mv rfl)<|st (bi rfl rfl rfl)<|xe<|nx<|?_
   rcases Bool.eq_false_or_eq_true (decide ((kk27 : Int)<0)) with hd29 | hd29
   ·have hg30:=of_decide_eq_true hd29
    refine ct rfl hd29<|xt<|tx<|bo rfl<|tx<|tx<|be<|nx<|sq<|?_
    have hrz : s.size≤100000000000:=by have:=hL.size; omega
    have hfz:=nodes_small hL.fit hrz
    have h:=h.fr (.c r1 .n)
    obtain ⟨⟨pn,cn,pc,cc,zs⟩,hz0,h⟩:=h.mo
    have h : SH B w (bl mb ([.slice pn zs.length cn,.slice pc s.cells.length cc,.int .i64 ((s.gen : Nat) : Int),.int .i64 ((s.acc : Nat) : Int)]) 64::osl 77 14 (.slice pn zs.length cn) zs.length (zs.flatMap nodeP)::osl 36 1 (.slice pc s.cells.length cc) s.cells.length (s.cells.map (Value.int .i64))::nodesF zs::exsA mb (ys.map pxo)::rsl 2 (.slice ppl ps.length cpl) ps.length (ps.flatMap ppC)::tapE tb pk::tksA (arSto ab) (400 - i) ys::(arSto ab).a s::L):=h
    have hzs : zs.map Prod.fst=nodesOf s:=hz0
    clear hz0
    refine drH [1,5,7,9,11,2,12,14] (by kernel_rfl) h (.c r0 .n) fun w h=>tk (fun W H=>mv rfl)<|tk (fun W H=>mv rfl)<|tk (fun W H=>nc rfl rfl)<|tk (fun W H=>fa fo_64_0 rfl)<|tk (fun W H=>ldr (cs:=[.slice pn zs.length cn,.slice pc s.cells.length cc,.int .i64 ((s.gen : Nat) : Int)]) rfl (rows_of (H.b a0) 0 rfl) row_62)<|cs (ca en_25 rfl) ((sstate_any ab s (h.fr (.c r8 .n)) hrz hL.fit).mono ?_)
    rintro _ w ⟨pnz32,cnz33,pcz34,ccz35,zz31,hzz36,rfl,h⟩
    refine ⟨_,rfl,h.hs (.c r4 .n),?_⟩
    refine cs (ca en_40 rfl) ((same_any s _ _ _ _ _ _ _ _ _ _ (h.fr (.c r0 (.c r0 (.c r0 (.c r2 (.c r2 (.c r2 .n))))))) hzz36 hzs hrz hfz).mono ?_)
    rintro _ w ⟨rfl,h⟩
    refine ⟨_,rfl,h.hs (.c r4 .n),?_⟩
    refine ef (sg rfl) (h.hs (.c r4 .n))<|xz<|nx<|rt<|?_
    have h:=SH.mi ⟨_,_,_,_,_⟩ hzs (h.fr (.c r4 (.c r0 (.c r0 (.c r0 .n)))))
    refine rr (res1 Tryz.results16 rfl)<|⟨s,hL.fit,(by have:=hL.size; omega),rfl,(h.fr (.c r2 (.c r2 (.c r2 (.c r2 .n))))).drop.drop.drop.drop⟩
   ·have hg37:=of_decide_eq_false hd29
    refine cf rfl hd29<|sk<|nx<|sq<|?_
    obtain ⟨jj,hjj,hje,hdd⟩:=hkk28 (by have:=of_decide_eq_false hd29; omega)
    subst hje
    have hyl : ys.length=ps.length:=by rw [← hps,List.length_map]
    refine rg<|st (mv rfl)<|st (mv rfl)<|?_
    obtain ⟨b38,o39,rfl⟩:=h.fq a2 (by omega)
    refine st (ix (j:=jj) sl_87 sz_56 rfl rfl (by omega))<|st (fa fo_56_0 rfl)<|st (ld one_51 rfl ((h.rr a2).x ppC_len (by decide) (by omega) (0,0) 0 _ rfl))<|cl (ca en_54 rfl) ((lstepT (n:=400 - (i+1)) (k:=jj) (h.fr (.c r4 (.c r4 .n))) (by omega) hL (by omega) hps hjj hdd).mono ?_)
    rintro _ w ⟨rfl,h⟩
    refine ⟨_,rfl,?_⟩
    refine xe<|nx<|rg<|st (mv rfl)<|st (mv rfl)<|st (ix (j:=jj) sl_87 sz_56 rfl rfl (by omega))<|st (fa fo_56_1 rfl)<|st (ld one_53 rfl ((h.rr a4).x ppC_len (by decide) (by omega) (0,0) 1 _ rfl))<|cl (ca en_48 rfl) ((lstepX (k:=jj) (h.fr (.c r2 (.c r2 .n))) hL (by omega) hps hjj hdd).mono ?_)
    rintro _ w ⟨g2,hL2,rfl,h⟩
    refine ⟨_,rfl,?_⟩
    refine xe<|bn<|nx<|rg<|st (mv rfl)<|st (bw rfl rfl (wadd (c:=((i+1 : Nat) : Int)) (by omega) (by omega) (by omega)))<|st (sg rfl)<|xe<|nx<|?_
    exact ⟨((i+1),g2,((ys[jj].u).step s).1,(ys.set jj (ys[jj].next s))),⟨rfl,rfl,rfl,rfl,rfl,trivial⟩,⟨(h.fr (.c r2 (.c r0 (.c r0 (.c r0 (.c r0 (.c r0 .n))))))),hL2,(pps_set hps hjj),by (try dsimp only); omega⟩,by (try dsimp only); omega⟩
 ·have hg40:=of_decide_eq_false hd1
  refine cf rfl hd1<|xt<|tx<|tx<|be<|nx<|sq<|?_
  have hrz : s.size≤100000000000:=by have:=hL.size; omega
  have hfz:=nodes_small hL.fit hrz
  have h:=h.fr (.c r2 .n)
  obtain ⟨⟨pn,cn,pc,cc,zs⟩,hz0,h⟩:=h.mo
  have h : SH B w (bl mb ([.slice pn zs.length cn,.slice pc s.cells.length cc,.int .i64 ((s.gen : Nat) : Int),.int .i64 ((s.acc : Nat) : Int)]) 64::osl 77 14 (.slice pn zs.length cn) zs.length (zs.flatMap nodeP)::osl 36 1 (.slice pc s.cells.length cc) s.cells.length (s.cells.map (Value.int .i64))::nodesF zs::tksA (arSto ab) (400 - i) ys::exsA mb (ys.map pxo)::(arSto ab).a s::rsl 2 (.slice ppl ps.length cpl) ps.length (ps.flatMap ppC)::tapE tb pk::L):=h
  have hzs : zs.map Prod.fst=nodesOf s:=hz0
  clear hz0
  refine drH [1,5,7,9,11,2,12,14] (by kernel_rfl) h (.c r0 .n) fun w h=>tk (fun W H=>mv rfl)<|tk (fun W H=>mv rfl)<|tk (fun W H=>nc rfl rfl)<|tk (fun W H=>fa fo_64_0 rfl)<|tk (fun W H=>ldr (cs:=[.slice pn zs.length cn,.slice pc s.cells.length cc,.int .i64 ((s.gen : Nat) : Int)]) rfl (rows_of (H.b a0) 0 rfl) row_62)<|cs (ca en_25 rfl) ((sstate_any ab s (h.fr (.c r6 .n)) hrz hL.fit).mono ?_)
  rintro _ w ⟨pnz42,cnz43,pcz44,ccz45,zz41,hzz46,rfl,h⟩
  refine ⟨_,rfl,h.hs (.c r4 .n),?_⟩
  refine cs (ca en_40 rfl) ((same_any s _ _ _ _ _ _ _ _ _ _ (h.fr (.c r0 (.c r0 (.c r0 (.c r2 (.c r2 (.c r2 .n))))))) hzz46 hzs hrz hfz).mono ?_)
  rintro _ w ⟨rfl,h⟩
  refine ⟨_,rfl,h.hs (.c r4 .n),?_⟩
  refine ef (sg rfl) (h.hs (.c r4 .n))<|xz<|nx<|rt<|?_
  have h:=SH.mi ⟨_,_,_,_,_⟩ hzs (h.fr (.c r4 (.c r0 (.c r0 (.c r0 .n)))))
  refine rr (res1 Tryz.results16 rfl)<|⟨s,hL.fit,(by have:=hL.size; omega),rfl,(h.fr (.c r2 (.c r2 (.c r2 (.c r2 .n))))).drop.drop.drop.drop⟩
end
end Go.Proofs.YtmliojdkmfhmmaaGreat
end
section
namespace Go.Ct
set_option maxRecDepth 100000
instance (n : Node) (L : Nat) : Decidable (n.Fit L):=by unfold Node.Fit Node.fits; infer_instance
end Go.Ct
end
section
namespace Go.Proofs.YtmliojdkmfhmmaaGreat
open Go.E
theorem fv_43_1 : fv Tryz.prog 43 1=some (1,1,false):=by kernel_rfl
theorem un_25 : Tryz.prog.underlying 25 = some (.pointer 128):=by kernel_rfl
theorem en_20 : Ents Tryz.prog 20:=enG Tryz.func20 rfl rfl
end Go.Proofs.YtmliojdkmfhmmaaGreat
end
section
namespace Go.Proofs.YtmliojdkmfhmmaaGreat
attribute [local irreducible] Go.E.wpL Go.E.wpS Go.E.X Go.E.XS Go.E.C Go.E.thn Go.E.blk Go.E.fin Go.E.Y Go.E.U Go.E.F Go.E.Ca Go.E.Res Go.E.bl Go.E.rb Go.E.osl Go.E.rsl Go.E.ex Go.E.ce Go.E.pu Go.E.sK Go.E.gK Go.E.bK Go.E.zK Go.E.boxA Go.E.cloA Go.E.codeA clA cdA klA
open Go.RowKit Go.E
variable {B w : World} {L : List As}
theorem tRun_any (S : Sto) (hM : ∀ w,Meth S.t S.x S.ab w) (n tb k z most : Nat) (p : Nat→Ct.St × Ct.I Ct.Result) (h : SH B w (taskA S n tb (p 0).2 k::S.a (p 0).1::L)) (hstep : ∀ i,p (i+1)=(p i).2.step (p i).1) (hrun : ∀ i,i<z→(p i).2.ended.isSome=false) (hend : (p z).2.ended.isSome=true) (hzm : z≤most) (hzn : z≤n) (hrm : ∀ i,i<z→Ct.Rm 101 (p i).1) (hk : k+z≤1000000000000) (hm : most≤1000000000000) :
  Calls Tryz.prog 20 #[.pointer (some ⟨tb,0,none⟩),.int .i64 ((most : Nat) : Int)] w fun e w'=>e=.returned (.int .i64 ((z : Nat) : Int))∧SH B w' (taskA S (n - z) tb (p z).2 (k+z)::S.a (p z).1::L):=by
 refine bn0 Tryz.func20 Tryz.ntmps20 h fun w h=>?_
 refine lp (α:=Nat) (fun ρ=>(.c 0 (.pointer (some ⟨tb,0,none⟩)) (.c 1 (.int .i64 ((most : Nat) : Int)) (.c 5 (.int .i64 ((ρ : Nat) : Int)) .n)))) (fun ρ w=>SH B w (taskA S (n - ρ) tb (p ρ).2 (k+ρ)::S.a (p ρ).1::L)∧(ρ≤z)) (fun ρ=>z - ρ) 0 ⟨rfl,rfl,rfl,trivial⟩ ⟨h,Nat.zero_le _⟩ ?_
 rintro i w ⟨h,hi⟩
 refine go h fun w h=>?_
 have h:=h.fr (.c r0 .n)
 obtain ⟨c,h⟩:=SH.to h
 have hc:=cd_facts (h.fr (.c r1 .n))
 refine go h fun w h=>?_
 refine qg h (fun hd1 w h=>?_) fun hd1 w h=>?_
 ·have hg2:=of_decide_eq_true hd1
  refine go h fun w h=>?_
  refine j000 (tDone_b S _ c _ _ h.to) fun w h=>?_
  refine qg h (fun hd3 w h=>?_) fun hd3 w h=>?_
  ·have hd4 : ((c.kind : Int)==0)=false:=(Bool.not_eq_true' _).mp hd3
   have hg5:=ne_of_beq_false hd4
   refine go h fun w h=>?_
   have h:=SH.ti (h.fr (.c r0 (.c r0 .n)))
   have hiz : i<z:=by
    rcases Nat.lt_or_ge i z with hz | hz
    ·exact hz
    ·obtain rfl : i=z:=by omega
     have h1:=hc.1.symm.trans hd4
     rw [hend] at h1; cases h1
   rw [show n - i=n - (i+1)+1 by omega] at h
   refine go h fun w h=>?_
   refine j000 (tStep_any S hM _ _ _ (p i).2 _ h.to (hrm i hiz) (by have:=hrun i hiz; simpa using this) (by omega)) fun w h=>?_
   rw [← hstep i] at h
   refine go h fun w h=>?_
   exact ⟨((i+1)),⟨rfl,rfl,rfl,trivial⟩,⟨h,hiz⟩,by (try dsimp only); omega⟩
  ·have hd6 : ((c.kind : Int)==0)=true:=(Bool.not_eq_false' _).mp hd3
   have hg7:=eq_of_beq hd6
   refine go h fun w h=>?_
   have h:=SH.ti (h.fr (.c r0 (.c r0 .n)))
   refine go h fun w h=>?_
   refine rz ?_
   have hiz : i=z:=by
    rcases Nat.lt_or_ge i z with hz | hz
    ·have h1:=hc.1.symm.trans hd6
     rw [hrun i hz] at h1; cases h1
    ·omega
   subst hiz
   exact ⟨rfl,h⟩
 ·have hg8:=of_decide_eq_false hd1
  refine go h fun w h=>?_
  have h:=SH.ti (h.fr (.c r0 (.c r0 .n)))
  refine go h fun w h=>?_
  refine rz ?_
  have hiz : i=z:=by
   rcases Nat.lt_or_ge i z with hz | hz
   ·omega
   ·omega
  subst hiz
  exact ⟨rfl,h⟩
end Go.Proofs.YtmliojdkmfhmmaaGreat
end
section
namespace Go.Proofs.YtmliojdkmfhmmaaGreat
open Go.RowKit Go.E
variable {B w : World} {L : List As}
theorem lrun_one (ab mb tb xb pb n : Nat) (g : Ct.Ga) (s : Ct.St) (c : Ct.Call) (h : SH B w (taskA (arSto ab) n tb ((Ct.progT c Ct.FU).head s).2 0::(arSto ab).a ((Ct.progT c Ct.FU).head s).1::XA xb mb (Ct.stepX (Ct.callI c Ct.FU) 0 ⟨{ call:=c },s⟩)::osl 56 2 (.slice (some ⟨pb,0,none⟩) 1 1) 1 [.pointer (some ⟨tb,0,none⟩),.pointer (some ⟨xb,0,none⟩)]::L))
  (hl : Ct.Lkd 0 g s []) (hs : s.size+1000≤38000000000) (hn : 400≤n) (hc : Ct.CallOk g c) (hm : c.mask<18446744073709551616) (hk : c.key.size≤9223372036854775807) (hok : Ct.Ok 50 (Ct.stepX (Ct.callI c Ct.FU) 0 ⟨{ call:=c },s⟩)) :
  Calls Tryz.prog 16 #[.pointer (some ⟨ab,0,none⟩),.pointer (some ⟨mb,0,none⟩),.slice none 0 0,.slice (some ⟨pb,0,none⟩) 1 1] w fun e w'=>∃ s',Ct.AllFit s'∧s'.size≤38100000000∧e=.returned (.bool true)∧SH B w' (memA mb s'::(arSto ab).a s'::L):=by
 obtain ⟨g',u,h1,_,_,hL⟩:=hl.add (tb:=tb) (xb:=xb) hs hc hm hk hok
 rw [h1] at h
 have h:=SH.tLess hn h
 have h:=tkAdd (ys:=[]) (xb:=xb) (e:=(Ct.stepX (Ct.callI c Ct.FU) 0 ⟨{ call:=c },s⟩).e) ((tkNil (S:=arSto ab) (n:=400) h).fr (.c r1 .n))
 have h:=SH.exAdd (zs:=[]) ((SH.exNil (mb:=mb) (h.fr (.c r2 .n))).fr (.c r1 .n))
 have h:=SH.fz (h.fr (.c r4 .n))
 have h:=SH.nilr 1 h
 refine (lrun_any ab mb g' _ _ [(tb,xb)] [] (some ⟨pb,0,none⟩) none 1 0 (h.fr (.c r4 (.c r2 (.c r2 (.c r2 (.c r1 .n)))))) hL rfl (by show 0<1; decide) (by show 1≤100; decide)).mono ?_
 rintro e w' ⟨s',h1,h2,rfl,h⟩
 exact ⟨s',h1,h2,rfl,h⟩
end Go.Proofs.YtmliojdkmfhmmaaGreat
end
section
namespace Go.Ct
def fwT : Trie:=(createS {}).2
def fwP : Nat→St × I Result
 | 0=>(freezeT fwT 1001).head (createS {}).1
 | i+1=>(fwP i).2.step (fwP i).1
theorem fwP_run : ∀ i,i<9→(fwP i).2.ended.isSome=false:=by decide +kernel
theorem fwP_end : (fwP 9).2.ended.isSome=true:=by decide +kernel
theorem fwP_found : ((fwP 9).2.ended.getD {}).found=true:=by decide +kernel
theorem fwP_ro : ((fwP 9).2.ended.getD {}).trie.readOnly=true:=by decide +kernel
theorem fwP_root : decide (((fwP 9).2.ended.getD {}).trie.root>3)=true:=by decide +kernel
theorem fwP_gen : (((fwP 9).1.node 4).gen==1)=true:=by decide +kernel
set_option maxRecDepth 100000
theorem fwP_fit : ∀ i,i<10→∀ n ∈ (fwP i).1.added,n.Fit (fwP i).1.added.length:=by decide +kernel
theorem fwP_size : ∀ i,i<10→(fwP i).1.size≤1000:=by decide +kernel
theorem fwP_rm (i : Nat) (h : i<10) : Rm 101 (fwP i).1 :=⟨fwP_fit i h,by have:=fwP_size i h; unfold roomMax; omega⟩
theorem fw0_fit : ∀ n ∈ (createS {}).1.added,n.Fit (createS {}).1.added.length:=by decide +kernel
theorem fw0_rm : Rm 60 (createS {}).1 :=⟨fw0_fit,by decide⟩
theorem fwN_rm : Rm 60 {} :=⟨(fun n h=>by cases h),by decide⟩
end Go.Ct
end
