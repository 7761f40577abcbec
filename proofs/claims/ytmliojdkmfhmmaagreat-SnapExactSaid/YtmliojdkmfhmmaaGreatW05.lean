/- Parts of a proof: Fz. -/
import Derived.Test.YtmliojdkmfhmmaaGreatW04
import Derived.ChangeSlices
import Derived.ChangeArms
import Derived.Deep.Slices
import Derived.Lib.SmallJoins
import Derived.ProofKit
set_option linter.unusedVariables false
set_option linter.unusedSimpArgs false
set_option maxRecDepth 100000
set_option maxHeartbeats 4000000
section
open Go Go.RowKit Go.E Go.ChangeShapes Go.WideShapes
namespace Go.Proofs.YtmliojdkmfhmmaaGreat
def frz (W0 : World) : As where
 p w O R:=Below W0.heap.size W0 w∧(∀ k,¬ O k)∧∀ k,R k ↔ k<W0.heap.size
 loc {w w' O R} h hz hk :=⟨⟨hz.1.trans h.1.os,hz.2.1.trans h.1.tape,hz.2.2.1.trans h.1.output,Nat.le_trans h.1.size hz.2.2.2,fun k hl=>(hk k (.inr ((h.2.2 k).2 hl))).trans (h.1.block k hl)⟩,h.2⟩
 dom {w O R k} h hk:=hk.elim (fun ho=>absurd ho (h.2.1 k)) (fun hr=>Nat.lt_of_lt_of_le ((h.2.2 k).1 hr) h.1.size)
 dis {w O R k} h ho:=absurd ho (h.2.1 k)
end Go.Proofs.YtmliojdkmfhmmaaGreat
namespace Go.E
open Go.Proofs.YtmliojdkmfhmmaaGreat Go.RowKit
theorem SH.frz (w : World) : SH w w [frz w] :=
 ⟨⟨rfl,rfl,rfl⟩,fun _ _=>False,fun _ k=>k<w.heap.size,fun i a ha=>by
  cases i with
  | zero=>simp only [List.getElem?_cons_zero,Option.some.injEq] at ha; subst ha; exact ⟨Below.refl _ _,fun _ h=>h,fun _=>Iff.rfl⟩
  | succ i=>simp at ha,fun i j k hij hi hj=>by simp at hi hj; omega⟩
theorem SH.old {B w W0 : World} {L : List As} (h : SH B w L) (m' : At L (Go.Proofs.YtmliojdkmfhmmaaGreat.frz W0)) : Below W0.heap.size W0 w:=by
 obtain ⟨_,_,h1⟩:=h.at_ m'; exact h1.1
end Go.E
namespace Go.Proofs.YtmliojdkmfhmmaaGreat
section
variable {H : Type} {enc : TypeId × Value→H} {P : Program} {W : World} {sp : Nat→Bool} {held : Bool}
theorem slice_ok {base : Nat} {t e : TypeId} {a : Addr} {len cap : Nat} (ht : P.underlying t=some (.slice e)) (h : Value.okWide P W .any base t (.slice (some a) len cap)) : a.spot=none∧a.block<W.heap.size:=by
 simp only [Value.okWide,ht,Cell.okWide,Cell.ok,World.has] at h
 obtain ⟨_,_,_,h1,row,cells,h2,_⟩:=h
 refine ⟨h1,?_⟩
 unfold World.shape? at h2
 cases hq : W.heap[a.block]? with
 | none=>rw [hq] at h2; cases h2
 | some o=>exact (Array.getElem?_eq_some_iff.1 hq).1
theorem reads_ints {base : Nat} {t e : TypeId} {k : IntKind} {v : Value} {d : DataW H} {ps : List MemPlace} (ht : P.underlying t=some (.slice e)) (he : P.underlying e=some (.int k)) (hc : P.cellsOf e=1) (hval : Value.okWide P W .any base t v) (hd : DataW.Trod enc P W 0 (fun _=>true) held t v d ps) :
  ∃ (zs : List Int) (p : Option Addr) (c : Nat),v=.slice p zs.length c∧Reads W 1 v zs.length (zs.map (Value.int k)):=by
 obtain ⟨a0,len,cap,rfl⟩:=okWide_slice ht hval
 obtain ⟨n,hf⟩:=hd
 rcases open_ints ht he hc hf with ⟨hcs,hx⟩ | ⟨a,len',cap',zs,hcs,_,hl,hm,hz,hx,hcell,hwz⟩
 ·simp [Value.cells] at hcs
  obtain ⟨rfl,rfl,rfl⟩:=hcs
  exact ⟨[],none,0,rfl,rfl,.inl ⟨rfl,rfl⟩⟩
 ·simp [Value.cells] at hcs
  obtain ⟨rfl,rfl,rfl⟩:=hcs
  obtain ⟨h1,h2⟩:=slice_ok ht hval
  obtain ⟨b,o,s⟩:=a
  dsimp only at h1 h2
  subst h1
  simp only [if_true] at hz
  have hlen : (zs.take len).length=len:=by rw [List.length_take]; omega
  refine ⟨zs.take len,some ⟨b,o,none⟩,cap,by rw [hlen],by simp,.inr ⟨b,o,cap,by rw [hlen],h2,by rw [hlen]; exact hl,hm,fun j u hu=>?_⟩⟩
  have hj : j<len:=by have:=(List.getElem?_eq_some_iff.1 hu).1; simp only [List.length_map,hlen] at this; exact this
  have:=hcell j (by omega)
  rw [addr_add] at this
  rw [this]
  rw [List.getElem?_map,List.getElem?_take,if_pos hj,List.getElem?_eq_getElem (by omega)] at hu
  simp only [Option.map_some,Option.some.injEq] at hu
  rw [← hu,List.getD_eq_getElem?_getD,List.getElem?_eq_getElem (by omega)]; rfl
end
theorem fromFrz {B w W0 : World} {L : List As} (h : SH B w L) (m' : At L (frz W0)) {sz n : Nat} {v : Value} {xs : List Value} (hr : Reads W0 sz v n xs) : SH B w (rsl sz v n xs::L):=h.dup m' fun O R hA=>by
 refine ⟨fun k=>v.ownBlock=some k,⟨⟨hr.1,hr.2.imp id ?_⟩,fun _ h=>h,fun _=>Iff.rfl⟩,fun k hk=>(hA.2.2 k).2 ?_⟩
 ·rintro ⟨b,off,cap,rfl,g1,g2,g3,g4⟩
  exact ⟨b,off,cap,rfl,Nat.lt_of_lt_of_le g1 hA.1.size,g2,g3,fun j u hu=>(World.cell?_of_block (hA.1.block b g1)).trans (g4 j u hu)⟩
 ·rcases hr.2 with ⟨rfl,_⟩ | ⟨b,off,cap,rfl,g1,_⟩
  ·cases hk
  ·injection hk with hk; exact hk ▸ g1
end Go.Proofs.YtmliojdkmfhmmaaGreat
end
