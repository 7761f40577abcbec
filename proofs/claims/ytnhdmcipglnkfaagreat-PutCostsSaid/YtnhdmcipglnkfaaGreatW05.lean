/- Parts of a proof: Fz, Zf. -/
import Derived.Test.YtnhdmcipglnkfaaGreatW04
import Derived.ChangeSlices
import Derived.ChangeArms
import Derived.Deep.Slices
import Derived.Lib.SmallJoins
import Derived.ProofKit
import Derived.Test.YtnhdmcipglnkfaaGreatProg
set_option linter.unusedVariables false
set_option linter.unusedSimpArgs false
set_option maxRecDepth 100000
set_option maxHeartbeats 4000000
section
open Go Go.RowKit Go.E Go.ChangeShapes Go.WideShapes
namespace Go.Q9
open Go.Proofs.Tryz
def frz(W0:World):As where
 p w O R:=Below W0.heap.size W0 w/\(∀k,¬O k)/\∀k,R k↔k<W0.heap.size
 loc {w w' O R} h hz hk:=⟨⟨hz.1.trans h.1.os,hz.2.1.trans h.1.tape,hz.2.2.1.trans h.1.output,kR h.1.size hz.2.2.2,λk hl=>(hk k (.inr ((h.2.2 k).2 hl))).trans (h.1.block k hl)⟩,h.2⟩
 DC {w O R k} h hk:=hk.elim (λho=>absurd ho (h.2.1 k)) (λhr=>Lz ((h.2.2 k).1 hr) h.1.size)
 DZ {w O R k} h ho:=absurd ho (h.2.1 k)
end Go.Q9
namespace Go.E
open Go.Q9 Go.RowKit
theorem SH.frz(w:World):SH w w [frz w]:=
 ⟨⟨rfl,rfl,rfl⟩,λ_ _=>False,λ_ k=>k<w.heap.size,λi a ha=>by
  cases i with
  |zero=>simp only[NK,Bs]at ha;subst ha;exact⟨Below.refl _ _,λ_ h=>h,λ_=>Iff.rfl⟩
  |succ i=>simp at ha,λi j k hij hi hj=>by simp at hi hj;omega⟩
theorem SH.dO{B w W0:World}{L:List As}(h:SH B w L)(m':At L (Go.Q9.frz W0)):Below W0.heap.size W0 w:=by
 obtain⟨_,_,h1⟩:=h.at_ m';exact h1.1
end Go.E
namespace Go.Q9
open Go.Proofs.Tryz
section
variable{H:Type}{enc:TypeId×Value->H}{P:Program}{W:World}{sp:Nat->Bool}{held:Bool}
theorem ZY{base:Nat}{t e:TypeId}{a:Addr}{len cap:Nat}(ht:P.underlying t=some (.slice e))(h:Value.okWide P W .any base t (.slice (some a) len cap)):a.spot=none/\a.block<W.heap.size:=by
 simp only[Value.okWide,ht,Cell.okWide,Cell.ok,World.has]at h
 obtain⟨_,_,_,h1,row,cells,h2,_⟩:=h
 refine⟨h1,?_⟩
 unfold World.shape? at h2
 cases hq:W.heap[a.block]? with
 |none=>rw[hq]at h2;cases h2
 |some o=>exact(Array.getElem?_eq_some_iff.1 hq).1
theorem On{base:Nat}{t e:TypeId}{k:IntKind}{v:Value}{d:DataW H}{ps:List MemPlace}(ht:P.underlying t=some (.slice e))(he:P.underlying e=some (.int k))(hc:P.cellsOf e=1)(KB:Value.okWide P W .any base t v)(hd:DataW.Trod enc P W 0 (λ_=>true) held t v d ps):
  ∃(zs:List Int) (p:Option Addr) (c:Nat),v=.slice p zs.length c/\Reads W 1 v zs.length (zs.map (Value.int k)):=by
 obtain⟨a0,len,cap,rfl⟩:=okWide_slice ht KB
 obtain⟨n,hf⟩:=hd
 rcases open_ints ht he hc hf with⟨KX,hx⟩|⟨a,len',cap',zs,KX,_,hl,hm,hz,hx,aL2,hwz⟩
 ·simp[Value.cells]at KX
  obtain⟨rfl,rfl,rfl⟩:=KX
  exact⟨[],none,0,rfl,rfl,.inl ⟨rfl,rfl⟩⟩
 ·simp[Value.cells]at KX
  obtain⟨rfl,rfl,rfl⟩:=KX
  obtain⟨h1,h2⟩:=ZY ht KB
  obtain⟨b,o,s⟩:=a
  dsimp only at h1 h2
  subst h1
  simp only[if_true]at hz
  have hlen:(zs.take len).length=len:=by rw[lI];omega
  refine⟨zs.take len,some ⟨b,o,none⟩,cap,by rw[hlen],by simp,.inr ⟨b,o,cap,by rw[hlen],h2,by rw[hlen];exact hl,hm,λj u hu=>?_⟩⟩
  have hj:j<len:=by have:=(List.getElem?_eq_some_iff.1 hu).1;simp only[vX,hlen]at this;exact this
  have:=aL2 j (by omega)
  rw[pI]at this
  rw[this]
  rw[AG,DN,if_pos hj,fV (by omega)]at hu
  simp only[Ze,Bs]at hu
  rw[<- hu,cK,fV (by omega)];rfl
end
theorem QX{B w W0:World}{L:List As}(h:SH B w L)(m':At L (frz W0)){sz n:Nat}{v:Value}{xs:List Value}(hr:Reads W0 sz v n xs):SH B w (bS sz v n xs::L):=h.dup m' λO R hA=>by
 refine⟨λk=>v.ownBlock=some k,⟨⟨hr.1,hr.2.imp id ?_⟩,λ_ h=>h,λ_=>Iff.rfl⟩,λk hk=>(hA.2.2 k).2 ?_⟩
 ·rintro⟨b,off,cap,rfl,g1,g2,g3,g4⟩
  exact⟨b,off,cap,rfl,Lz g1 hA.1.size,g2,g3,λj u hu=>(World.cell?_of_block (hA.1.block b g1)).trans (g4 j u hu)⟩
 ·rcases hr.2 with⟨rfl,_⟩|⟨b,off,cap,rfl,g1,_⟩
  ·cases hk
  ·injection hk with hk;exact hk▸g1
end Go.Q9
end
section
namespace Go.Q9
open Go.Proofs.Tryz
open Go.E
def enM:Nat:=0x7f8000fefffffffffffffffffffffffffffffffffffffffffffffffffffffffffffffffffffffffffc
noncomputable def aIi (f:FuncId):Bool:=match prog.funcs[f]? with
 |some F=>!(F.name== "runtime.NumGoroutine")&&F.body.isSome
 |none=>false
theorem aIr:(List.range 328).all (λf=>aIi f||!(Nat.beq (Nat.land (Nat.shiftRight enM f) 1) 1))=true:=by kernel_rfl
theorem aI7:Nat.shiftRight enM 328=0:=by decide+kernel
theorem eF{f:FuncId}(a:Nat.beq (Nat.land (Nat.shiftRight enM f) 1) 1=true:=by rfl):nH prog f:=by
 have hf:f<328:=by
  rcases Gg f 328 with h|h
  ·exact h
  ·have h1:Nat.shiftRight enM f=0:=by
    show enM>>>f=0
    obtain⟨k,rfl⟩:=Nat.exists_eq_add_of_le h
    rw[Nat.shiftRight_add,show enM>>>328=0 from aI7,Nat.zero_shiftRight]
   rw[h1]at a;cases a
 have h2:=List.all_eq_true.1 aIr f (List.mem_range.2 hf)
 rw[a,xX,Eb]at h2
 unfold aIi at h2
 cases h3:prog.funcs[f]? with
 |none=>rw[h3]at h2;cases h2
 |some F=>
  rw[h3]at h2
  obtain⟨h4,h5⟩:=Bool.and_eq_true_iff.1 h2
  intro xs w
  simp only[callFunc,Sem.run_bind,run_program,Result.andThen_ok]
  rw[h3]
  dsimp only
  rw[(gZ _).mp h4,show F.body.isNone=false by cases hb:F.body<;>simp_all]
  rfl
end Go.Q9
end
