/- Parts of a proof: Rn, Ryd, Rye, Ryf. -/
import Derived.Test.YtmliojdkmfhmmaaGreatW09
import Derived.Test.YtmliojdkmfhmmaaGreatW14
import Derived.Test.YtmliojdkmfhmmaaGreatW04
import Derived.Test.YtmliojdkmfhmmaaGreatW13
set_option linter.unusedVariables false
set_option linter.unusedSimpArgs false
set_option maxRecDepth 100000
set_option maxHeartbeats 4000000
section
namespace Go.Proofs.YtmliojdkmfhmmaaGreat
attribute [local irreducible] Go.E.wpL Go.E.wpS Go.E.X Go.E.XS Go.E.C Go.E.thn Go.E.blk Go.E.fin Go.E.Y Go.E.U Go.E.F Go.E.Ca Go.E.Res Go.E.bl Go.E.rb Go.E.osl Go.E.rsl Go.E.ex Go.E.ce Go.E.pu Go.E.sK Go.E.gK Go.E.bK Go.E.zK
open Go.RowKit Go.E
def knownR (want : Ct.Acc) (x : Ct.X) : Ct.X × Bool × Bool :=
 if x.e.stopped=true then (x,false,false)
 else if x.e.a<x.e.got.length then (Ct.oldX x,true,false)
 else if x.e.free=0 then (Ct.stopX want x,false,false)
 else ({ x with e:={ x.e with free:=x.e.free - 1 } },false,true)
theorem known_s {a : Ct.Acc} {x : Ct.X} (h : x.e.stopped=true) : knownR a x=(x,false,false):=by unfold knownR; rw [if_pos h]
theorem known_o {a : Ct.Acc} {x : Ct.X} (h : x.e.stopped=false) (h1 : x.e.a<x.e.got.length) : knownR a x=(Ct.oldX x,true,false):=by unfold knownR; rw [if_neg (by rw [h]; decide),if_pos h1]
theorem known_f {a : Ct.Acc} {x : Ct.X} (h : x.e.stopped=false) (h1 : ¬ x.e.a<x.e.got.length) (h2 : x.e.free=0) : knownR a x=(Ct.stopX a x,false,false):=by unfold knownR; rw [if_neg (by rw [h]; decide),if_neg h1,if_pos h2]
theorem known_n {a : Ct.Acc} {x : Ct.X} (h : x.e.stopped=false) (h1 : ¬ x.e.a<x.e.got.length) (h2 : x.e.free≠0) : knownR a x=({ x with e:={ x.e with free:=x.e.free - 1 } },false,true):=by unfold knownR; rw [if_neg (by rw [h]; decide),if_neg h1,if_neg h2]
variable {B w : World} {L : List As}
theorem memNode_x (xb mb : Nat) (x : Ct.X) (r : Int) (h : SH B w (XA xb mb x::L)) (hx : x.s.size≤100000000000) :
  Calls Tryz.prog 256 #[.pointer (some ⟨mb,0,none⟩),.int .i64 r] w fun e w'=>∃ q,e=.returned (.agg (nodeC (x.node r) q).toArray)∧SH B w' (nodeR (x.node r) q::XA xb mb x::L):=by
 refine (node_any mb x.s r (h.se.fr (.c r1 .n)) hx).mono ?_
 rintro e w' ⟨q,rfl,h⟩
 exact ⟨q,rfl,(SH.is (l:=[exA xb mb x.e,memA mb x.s]) (h.fr (.c r2 (.c r1 .n)))).fr (.c r1 .n)⟩
theorem loadR_s {c : Int} {x : Ct.X} (h : x.e.stopped=true) : Ct.loadR c x=Ct.out x 0:=by unfold Ct.loadR; rw [if_pos h,Ct.out_none h]
theorem loadR_o {c : Int} {x : Ct.X} (h : x.e.stopped=false) (h1 : x.e.a<x.e.got.length) : Ct.loadR c x=Ct.out (Ct.oldX x) (x.e.got.getD x.e.a 0):=by
 unfold Ct.loadR; rw [if_neg (by rw [h]; decide),if_pos h1,Ct.out_some (y:=Ct.oldX x) (show (Ct.oldX x).e.stopped=false from h)]
theorem loadR_f {c : Int} {x : Ct.X} (h : x.e.stopped=false) (h1 : ¬ x.e.a<x.e.got.length) (h2 : x.e.free=0) : Ct.loadR c x=Ct.out (Ct.stopX ⟨1,c,0,0⟩ x) 0:=by
 unfold Ct.loadR; rw [if_neg (by rw [h]; decide),if_neg h1,if_pos h2,Ct.out_none rfl]
theorem got_last {l : List Int} {a : Nat} {v : Int} (h : ¬ a<l.length) (h2 : a≤l.length) : (l ++ [v]).getD a 0=v:=by
 have e : a=l.length:=by omega
 rw [e]; simp
theorem loadR_n {c : Int} {x : Ct.X} (h : x.e.stopped=false) (h1 : ¬ x.e.a<x.e.got.length) (h2 : x.e.free≠0) (h3 : x.e.a≤x.e.got.length) : Ct.loadR c x=Ct.out (Ct.newX (x.s.load c).2 (x.s.load c).1 x) ((x.e.got ++ [(x.s.load c).2]).getD x.e.a 0):=by
 unfold Ct.loadR; rw [if_neg (by rw [h]; decide),if_neg h1,if_neg h2,Ct.out_some (show (Ct.newX (x.s.load c).2 (x.s.load c).1 x).e.stopped=false from h),got_last h1 h3]
theorem casR_s {c a n : Int} {x : Ct.X} (h : x.e.stopped=true) : Ct.casR c a n x=Ct.out x false:=by unfold Ct.casR; rw [if_pos h,Ct.out_none h]
theorem casR_o {c a n : Int} {x : Ct.X} (h : x.e.stopped=false) (h1 : x.e.a<x.e.got.length) : Ct.casR c a n x=Ct.out (Ct.oldX x) (x.e.got.getD x.e.a 0==1):=by
 unfold Ct.casR; rw [if_neg (by rw [h]; decide),if_pos h1,Ct.out_some (y:=Ct.oldX x) (show (Ct.oldX x).e.stopped=false from h)]
theorem casR_f {c a n : Int} {x : Ct.X} (h : x.e.stopped=false) (h1 : ¬ x.e.a<x.e.got.length) (h2 : x.e.free=0) : Ct.casR c a n x=Ct.out (Ct.stopX ⟨2,c,a,n⟩ x) false:=by
 unfold Ct.casR; rw [if_neg (by rw [h]; decide),if_neg h1,if_pos h2,Ct.out_none rfl]
theorem casR_t {c a n : Int} {x : Ct.X} (h : x.e.stopped=false) (h1 : ¬ x.e.a<x.e.got.length) (h2 : x.e.free≠0) (h3 : x.e.a≤x.e.got.length) (hb : (x.s.cas c a n).2=true) : Ct.casR c a n x=Ct.out (Ct.newX 1 (x.s.cas c a n).1 x) ((x.e.got ++ [1]).getD x.e.a 0==1):=by
 unfold Ct.casR; rw [if_neg (by rw [h]; decide),if_neg h1,if_neg h2,hb,Ct.out_some (show (Ct.newX 1 (x.s.cas c a n).1 x).e.stopped=false from h),got_last h1 h3]; rfl
theorem casR_e {c a n : Int} {x : Ct.X} (h : x.e.stopped=false) (h1 : ¬ x.e.a<x.e.got.length) (h2 : x.e.free≠0) (h3 : x.e.a≤x.e.got.length) (hb : (x.s.cas c a n).2=false) : Ct.casR c a n x=Ct.out (Ct.newX 0 (x.s.cas c a n).1 x) ((x.e.got ++ [0]).getD x.e.a 0==1):=by
 unfold Ct.casR; rw [if_neg (by rw [h]; decide),if_neg h1,if_neg h2,hb,Ct.out_some (show (Ct.newX 0 (x.s.cas c a n).1 x).e.stopped=false from h),got_last h1 h3]; rfl
theorem got_end {l : List Int} {a : Nat} {v : Int} (h : a=l.length) : (l ++ [v]).getD a 0=v:=by rw [h]; simp
theorem allocR_s {n : Ct.Node} {i : Int} {x : Ct.X} (h : x.e.stopped=true) : Ct.allocR n i x=Ct.out x 0:=by unfold Ct.allocR; rw [if_pos h,Ct.out_none h]
theorem allocR_n {n : Ct.Node} {i : Int} {x : Ct.X} (h : x.e.stopped=false) (hm : x.e.m=x.e.made.length) : Ct.allocR n i x=Ct.out { e:={ x.e with made:=x.e.made ++ [(x.s.alloc n i).2],m:=x.e.m+1 },s:=(x.s.alloc n i).1 } ((x.e.made ++ [(x.s.alloc n i).2]).getD x.e.m 0):=by
 unfold Ct.allocR; rw [if_neg (by rw [h]; decide),if_pos hm,got_end hm]; unfold Ct.out; dsimp only; rw [if_neg (by rw [h]; decide)]
theorem allocR_o {n : Ct.Node} {i : Int} {x : Ct.X} (h : x.e.stopped=false) (hm : x.e.m<x.e.made.length) : Ct.allocR n i x=Ct.out { x with e:={ x.e with m:=x.e.m+1 } } (x.e.made.getD x.e.m 0):=by
 unfold Ct.allocR; rw [if_neg (by rw [h]; decide),if_neg (by omega)]; unfold Ct.out; dsimp only; rw [if_neg (by rw [h]; decide)]
theorem cellR_s {i : Int} {x : Ct.X} (h : x.e.stopped=true) : Ct.cellR i x=Ct.out x 0:=by unfold Ct.cellR; rw [if_pos h,Ct.out_none h]
theorem cellR_n {i : Int} {x : Ct.X} (h : x.e.stopped=false) (hm : x.e.c=x.e.cells.length) : Ct.cellR i x=Ct.out { e:={ x.e with cells:=x.e.cells ++ [(x.s.newCell i).2],c:=x.e.c+1 },s:=(x.s.newCell i).1 } ((x.e.cells ++ [(x.s.newCell i).2]).getD x.e.c 0):=by
 unfold Ct.cellR; rw [if_neg (by rw [h]; decide),if_pos hm,got_end hm]; unfold Ct.out; dsimp only; rw [if_neg (by rw [h]; decide)]
theorem cellR_o {i : Int} {x : Ct.X} (h : x.e.stopped=false) (hm : x.e.c<x.e.cells.length) : Ct.cellR i x=Ct.out { x with e:={ x.e with c:=x.e.c+1 } } (x.e.cells.getD x.e.c 0):=by
 unfold Ct.cellR; rw [if_neg (by rw [h]; decide),if_neg (by omega)]; unfold Ct.out; dsimp only; rw [if_neg (by rw [h]; decide)]
theorem genR_s {x : Ct.X} (h : x.e.stopped=true) : Ct.genR x=Ct.out x 0:=by unfold Ct.genR; rw [if_pos h,Ct.out_none h]
theorem genR_n {x : Ct.X} (h : x.e.stopped=false) (hm : x.e.g=x.e.gens.length) : Ct.genR x=Ct.out { e:={ x.e with gens:=x.e.gens ++ [x.s.newGen.2],g:=x.e.g+1 },s:=x.s.newGen.1 } ((x.e.gens ++ [x.s.newGen.2]).getD x.e.g 0):=by
 unfold Ct.genR; rw [if_neg (by rw [h]; decide),if_pos hm,got_end hm]; unfold Ct.out; dsimp only; rw [if_neg (by rw [h]; decide)]
theorem genR_o {x : Ct.X} (h : x.e.stopped=false) (hm : x.e.g<x.e.gens.length) : Ct.genR x=Ct.out { x with e:={ x.e with g:=x.e.g+1 } } (x.e.gens.getD x.e.g 0):=by
 unfold Ct.genR; rw [if_neg (by rw [h]; decide),if_neg (by omega)]; unfold Ct.out; dsimp only; rw [if_neg (by rw [h]; decide)]
theorem known_any (xb mb : Nat) (x : Ct.X) (a : Ct.Acc) (h : SH B w (XA xb mb x::L)) (hx : Ct.Ok 0 x) :
  Calls Tryz.prog 254 #[.pointer (some ⟨xb,0,none⟩),.agg (accV a).toArray] w fun e w'=>∃ y o n,knownR a x=(y,o,n)∧e=.returned (.tuple #[.bool o,.bool n])∧SH B w' (XA xb mb y::L):=by
 have hb:=hx.big
 have hxa:=hx.a
 have hfr:=hx.free
 unfold Ct.X.size Ct.roomMax at hb
 refine bn0 Tryz.func254 Tryz.ntmps254 h fun w h=>?_
 refine jX h fun b1 w h=>?_
 have h:=h.fr (.c r1 .n)
 obtain ⟨⟨pg,cg,pm,cm,pq,cq,pi,ci⟩,h⟩:=h.xo
 have h : SH B w (bl xb (exV mb x.e ⟨pg,cg,pm,cm,pq,cq,pi,ci⟩) 115::osl 36 1 (.slice pg x.e.got.length cg) x.e.got.length (x.e.got.map (Value.int .i64))::osl 36 1 (.slice pm x.e.made.length cm) x.e.made.length (x.e.made.map (Value.int .i64))::osl 33 1 (.slice pq x.e.cells.length cq) x.e.cells.length (x.e.cells.map (Value.int .i64))::osl 3 1 (.slice pi x.e.gens.length ci) x.e.gens.length (x.e.gens.map (Value.int .i64))::memA mb x.s::bl b1 (accV a) 106::L):=h
 refine go h fun w h=>?_
 refine qc h (fun hd2 w h=>?_) fun hd2 w h=>?_
 exact rr (res2 rfl rfl rfl)<|⟨x,_,_,known_s hd2,rfl,SH.xi ⟨pg,cg,pm,cm,pq,cq,pi,ci⟩ (h.to)⟩
 refine drH [1,3,5,7,9,11,13,15,17,19] (by kernel_rfl) h (.c r0 .n) fun w h=>go h fun w h=>?_
 refine qc h (fun hd3 w h=>?_) fun hd3 w h=>?_
 have hg4:=of_decide_eq_true hd3
 refine go h fun w h=>?_
 exact rr (res2 rfl rfl rfl)<|⟨Ct.oldX x,_,_,known_o hd2 (by omega),rfl,SH.xi ⟨pg,cg,pm,cm,pq,cq,pi,ci⟩ (h.to)⟩
 have hg5:=of_decide_eq_false hd3
 refine go h fun w h=>?_
 refine qc h (fun hd6 w h=>?_) fun hd6 w h=>?_
 have hg7:=eq_of_beq hd6
 refine go h fun w h=>?_
 refine drH [1,3,5,7,9,10,13,15,16] (by kernel_rfl) h (.c r6 .n) fun w h=>go h fun w h=>?_
 exact rr (res2 rfl rfl rfl)<|⟨Ct.stopX a x,_,_,known_f hd2 (by omega) (by omega),rfl,SH.xi ⟨pg,cg,pm,cm,pq,cq,pi,ci⟩ (h.to)⟩
 have hg8:=ne_of_beq_false hd6
 refine go h fun w h=>?_
 refine st (bs ((x.e.free - 1 : Nat) : Int))<|go h fun w h=>?_
 exact rr (res2 rfl rfl rfl)<|⟨{ x with e:={ x.e with free:=x.e.free - 1 } },_,_,known_n hd2 (by omega) (by omega),rfl,SH.xi ⟨pg,cg,pm,cm,pq,cq,pi,ci⟩ (h.to)⟩
theorem xnode_any (xb mb : Nat) (x : Ct.X) (r : Int) (h : SH B w (XA xb mb x::L)) (hx : x.s.size≤100000000000) :
  Calls Tryz.prog 212 #[.pointer (some ⟨xb,0,none⟩),.int .i64 r] w fun e w'=>∃ q,e=.returned (.agg (nodeC (x.node r) q).toArray)∧SH B w' (nodeR (x.node r) q::XA xb mb x::L):=by
 refine bn0 Tryz.func212 Tryz.ntmps212 h fun w h=>?_
 refine jA h fun b1 w h=>?_
 refine st (ld (v:=.pointer (some ⟨mb,0,none⟩)) One.h rfl (h.xc a1 fun _=>rfl))<|go h fun w h=>?_
 refine j100 (memNode_x _ _ _ _ h.to (by first | exact hx.big | omega)) fun q w h=>?_
 exact rr (resC rfl rfl (h.b a2) Row.h)<|⟨_,rfl,h.to⟩
theorem loadR_s_any (xb mb : Nat) (x : Ct.X) (c : Int) (h : SH B w (XA xb mb x::L)) (hx : Ct.Ok 0 x) (hs : x.e.stopped=true) :
  Calls Tryz.prog 211 #[.pointer (some ⟨xb,0,none⟩),.int .i64 c] w fun e w'=>∃ y v,Ct.loadR c x=Ct.out y v∧e=.returned (.int .i64 v)∧SH B w' (XA xb mb y::L):=by
 have hb:=hx.big
 have hxa:=hx.a
 have hfr:=hx.free
 unfold Ct.X.size Ct.roomMax at hb
 refine bn0 Tryz.func211 Tryz.ntmps211 h fun w h=>?_
 refine j310 (known_any _ _ _ (⟨1,c,0,0⟩) h.to hx) fun y o n q w h=>?_
 rw [known_s hs] at q
 cases q
 refine go h fun w h=>?_
 exact rz ⟨_,0,loadR_s hs,rfl,h⟩
theorem loadR_o_any (xb mb : Nat) (x : Ct.X) (c : Int) (h : SH B w (XA xb mb x::L)) (hx : Ct.Ok 0 x) (hs : x.e.stopped=false) (ha : x.e.a<x.e.got.length) :
  Calls Tryz.prog 211 #[.pointer (some ⟨xb,0,none⟩),.int .i64 c] w fun e w'=>∃ y v,Ct.loadR c x=Ct.out y v∧e=.returned (.int .i64 v)∧SH B w' (XA xb mb y::L):=by
 have hb:=hx.big
 have hxa:=hx.a
 have hfr:=hx.free
 unfold Ct.X.size Ct.roomMax at hb
 refine bn0 Tryz.func211 Tryz.ntmps211 h fun w h=>?_
 refine j310 (known_any _ _ _ (⟨1,c,0,0⟩) h.to hx) fun y o n q w h=>?_
 rw [known_o hs ha] at q
 cases q
 refine go h fun w h=>?_
 obtain ⟨⟨pg,cg,pm,cm,pq,cq,pi,ci⟩,h⟩:=h.xo
 have h : SH B w (bl xb (exV mb ({ x.e with a:=x.e.a+1 }) ⟨pg,cg,pm,cm,pq,cq,pi,ci⟩) 115::osl 36 1 (.slice pg x.e.got.length cg) x.e.got.length (x.e.got.map (Value.int .i64))::osl 36 1 (.slice pm x.e.made.length cm) x.e.made.length (x.e.made.map (Value.int .i64))::osl 33 1 (.slice pq x.e.cells.length cq) x.e.cells.length (x.e.cells.map (Value.int .i64))::osl 3 1 (.slice pi x.e.gens.length ci) x.e.gens.length (x.e.gens.map (Value.int .i64))::memA mb x.s::L):=h
 obtain ⟨b1,rfl⟩:=h.fp a1 (by omega)
 refine drH [1,3,5,7,9,11,13,15,17,19,21,22] (by kernel_rfl) h (.c r0 (.c r0 .n)) fun w h=>go h fun w h=>?_
 refine tk (fun W H=>bs ((x.e.a : Nat) : Int))<|go h fun w h=>?_
 exact rz ⟨_,_,loadR_o hs ha,rfl,SH.xi ⟨some ⟨b1,0,none⟩,cg,pm,cm,pq,cq,pi,ci⟩ (h)⟩
theorem loadR_f_any (xb mb : Nat) (x : Ct.X) (c : Int) (h : SH B w (XA xb mb x::L)) (hx : Ct.Ok 0 x) (hs : x.e.stopped=false) (ha : ¬ x.e.a<x.e.got.length) (hf : x.e.free=0) :
  Calls Tryz.prog 211 #[.pointer (some ⟨xb,0,none⟩),.int .i64 c] w fun e w'=>∃ y v,Ct.loadR c x=Ct.out y v∧e=.returned (.int .i64 v)∧SH B w' (XA xb mb y::L):=by
 have hb:=hx.big
 have hxa:=hx.a
 have hfr:=hx.free
 unfold Ct.X.size Ct.roomMax at hb
 refine bn0 Tryz.func211 Tryz.ntmps211 h fun w h=>?_
 refine j310 (known_any _ _ _ (⟨1,c,0,0⟩) h.to hx) fun y o n q w h=>?_
 rw [known_f hs ha hf] at q
 cases q
 refine go h fun w h=>?_
 exact rz ⟨_,0,loadR_f hs ha hf,rfl,h⟩
theorem loadR_n_any (xb mb : Nat) (x : Ct.X) (c : Int) (h : SH B w (XA xb mb x::L)) (hx : Ct.Ok 0 x) (hs : x.e.stopped=false) (ha : ¬ x.e.a<x.e.got.length) (hf : x.e.free≠0) :
  Calls Tryz.prog 211 #[.pointer (some ⟨xb,0,none⟩),.int .i64 c] w fun e w'=>∃ y v,Ct.loadR c x=Ct.out y v∧e=.returned (.int .i64 v)∧SH B w' (XA xb mb y::L):=by
 have hb:=hx.big
 have hxa:=hx.a
 have hfr:=hx.free
 unfold Ct.X.size Ct.roomMax at hb
 refine bn0 Tryz.func211 Tryz.ntmps211 h fun w h=>?_
 refine j310 (known_any _ _ _ (⟨1,c,0,0⟩) h.to hx) fun y o n q w h=>?_
 rw [known_n hs ha hf] at q
 cases q
 refine go h fun w h=>?_
 obtain ⟨⟨pg,cg,pm,cm,pq,cq,pi,ci⟩,h⟩:=h.xo
 have h : SH B w (bl xb (exV mb ({ x.e with free:=x.e.free - 1 }) ⟨pg,cg,pm,cm,pq,cq,pi,ci⟩) 115::osl 36 1 (.slice pg x.e.got.length cg) x.e.got.length (x.e.got.map (Value.int .i64))::osl 36 1 (.slice pm x.e.made.length cm) x.e.made.length (x.e.made.map (Value.int .i64))::osl 33 1 (.slice pq x.e.cells.length cq) x.e.cells.length (x.e.cells.map (Value.int .i64))::osl 3 1 (.slice pi x.e.gens.length ci) x.e.gens.length (x.e.gens.map (Value.int .i64))::memA mb x.s::L):=h
 refine drG (F:=[bl xb (exV mb ({ x.e with free:=x.e.free - 1 }) ⟨pg,cg,pm,cm,pq,cq,pi,ci⟩) 115]) [(true,[1]),(false,[3]),(true,[5,7,9,11,13,15,17,19,21,29,31,33,35]),(false,[37]),(true,[22,24,26,39,41]),(false,[42,45,47,48])] (by kernel_rfl) h (fun w h=>(hC (h.at_ a0) hN)) fun w h=>go h fun w h=>?_
 refine s000 (load_any _ _ _ h.to (by unfold Ct.St.size; unfold Ct.St.size at hb; omega)) fun w h=>?_
 refine ff (bu [.int .i64 ((x.s.load c).2)] h Slc.h Ss.h rfl (by kernel_rfl) rfl (by decide) (by decide)) ?_
 rintro _ w ⟨b1,rfl,h⟩
 refine gz h fun w h=>?_
 refine ff (ap h Slc.h rfl Ss.h rfl (by decide) rfl rfl (fun _=>u3) (h.ro a0) (by simp [Value.oneCell']) rfl (join_ints _ _) (by unfold maxLen; omega) (by omega)) ?_
 rintro _ w ⟨p2,c3,rfl,h⟩
 refine gz h fun w h=>?_
 obtain ⟨b4,rfl⟩:=h.fp a3 (by omega)
 refine drH [1,3,5,7,9,11,13,15,17,19,21,22] (by kernel_rfl) h (.c r2 (.c r2 .n)) fun w h=>go h fun w h=>?_
 refine tk (fun W H=>bs ((x.e.a : Nat) : Int))<|go h fun w h=>?_
 exact rz ⟨_,_,loadR_n hs ha hf hxa,rfl,SH.xi ⟨some ⟨b4,0,none⟩,c3,pm,cm,pq,cq,pi,ci⟩ (by unfold exL exV; (try unfold Ct.newX); dsimp only; rw [List.length_append,List.length_singleton]; exact h.to)⟩
theorem casR_s_any (xb mb : Nat) (x : Ct.X) (c o' n' : Int) (h : SH B w (XA xb mb x::L)) (hx : Ct.Ok 0 x) (hs : x.e.stopped=true) :
  Calls Tryz.prog 213 #[.pointer (some ⟨xb,0,none⟩),.int .i64 c,.int .i64 o',.int .i64 n'] w fun e w'=>∃ y v,Ct.casR c o' n' x=Ct.out y v∧e=.returned (.bool v)∧SH B w' (XA xb mb y::L):=by
 have hb:=hx.big
 have hxa:=hx.a
 have hfr:=hx.free
 unfold Ct.X.size Ct.roomMax at hb
 refine bn0 Tryz.func213 Tryz.ntmps213 h fun w h=>?_
 refine j310 (known_any _ _ _ (⟨2,c,o',n'⟩) h.to hx) fun y o n q w h=>?_
 rw [known_s hs] at q
 cases q
 refine go h fun w h=>?_
 refine drH [1,3,5,7,9,11,13,15,17,19,21,23,25,27,29,31,33,35,36] (by kernel_rfl) h .n fun w h=>go h fun w h=>?_
 exact rz ⟨_,false,casR_s hs,rfl,h⟩
theorem casR_o_any (xb mb : Nat) (x : Ct.X) (c o' n' : Int) (h : SH B w (XA xb mb x::L)) (hx : Ct.Ok 0 x) (hs : x.e.stopped=false) (ha : x.e.a<x.e.got.length) :
  Calls Tryz.prog 213 #[.pointer (some ⟨xb,0,none⟩),.int .i64 c,.int .i64 o',.int .i64 n'] w fun e w'=>∃ y v,Ct.casR c o' n' x=Ct.out y v∧e=.returned (.bool v)∧SH B w' (XA xb mb y::L):=by
 have hb:=hx.big
 have hxa:=hx.a
 have hfr:=hx.free
 unfold Ct.X.size Ct.roomMax at hb
 refine bn0 Tryz.func213 Tryz.ntmps213 h fun w h=>?_
 refine j310 (known_any _ _ _ (⟨2,c,o',n'⟩) h.to hx) fun y o n q w h=>?_
 rw [known_o hs ha] at q
 cases q
 refine go h fun w h=>?_
 obtain ⟨⟨pg,cg,pm,cm,pq,cq,pi,ci⟩,h⟩:=h.xo
 have h : SH B w (bl xb (exV mb ({ x.e with a:=x.e.a+1 }) ⟨pg,cg,pm,cm,pq,cq,pi,ci⟩) 115::osl 36 1 (.slice pg x.e.got.length cg) x.e.got.length (x.e.got.map (Value.int .i64))::osl 36 1 (.slice pm x.e.made.length cm) x.e.made.length (x.e.made.map (Value.int .i64))::osl 33 1 (.slice pq x.e.cells.length cq) x.e.cells.length (x.e.cells.map (Value.int .i64))::osl 3 1 (.slice pi x.e.gens.length ci) x.e.gens.length (x.e.gens.map (Value.int .i64))::memA mb x.s::L):=h
 obtain ⟨b1,rfl⟩:=h.fp a1 (by omega)
 refine drH [1,3,5,7,9,11,13,15,17,19,21,23,25,27,29,31,33,35,36] (by kernel_rfl) h (.c r0 (.c r0 .n)) fun w h=>go h fun w h=>?_
 refine tk (fun W H=>bs ((x.e.a : Nat) : Int))<|go h fun w h=>?_
 exact rz ⟨_,_,casR_o hs ha,rfl,SH.xi ⟨some ⟨b1,0,none⟩,cg,pm,cm,pq,cq,pi,ci⟩ (h)⟩
theorem casR_f_any (xb mb : Nat) (x : Ct.X) (c o' n' : Int) (h : SH B w (XA xb mb x::L)) (hx : Ct.Ok 0 x) (hs : x.e.stopped=false) (ha : ¬ x.e.a<x.e.got.length) (hf : x.e.free=0) :
  Calls Tryz.prog 213 #[.pointer (some ⟨xb,0,none⟩),.int .i64 c,.int .i64 o',.int .i64 n'] w fun e w'=>∃ y v,Ct.casR c o' n' x=Ct.out y v∧e=.returned (.bool v)∧SH B w' (XA xb mb y::L):=by
 have hb:=hx.big
 have hxa:=hx.a
 have hfr:=hx.free
 unfold Ct.X.size Ct.roomMax at hb
 refine bn0 Tryz.func213 Tryz.ntmps213 h fun w h=>?_
 refine j310 (known_any _ _ _ (⟨2,c,o',n'⟩) h.to hx) fun y o n q w h=>?_
 rw [known_f hs ha hf] at q
 cases q
 refine go h fun w h=>?_
 refine drH [1,3,5,7,9,11,13,15,17,19,21,23,25,27,29,31,33,35,36] (by kernel_rfl) h .n fun w h=>go h fun w h=>?_
 exact rz ⟨_,false,casR_f hs ha hf,rfl,h⟩
theorem casR_n_any (xb mb : Nat) (x : Ct.X) (c o' n' : Int) (h : SH B w (XA xb mb x::L)) (hx : Ct.Ok 0 x) (hs : x.e.stopped=false) (ha : ¬ x.e.a<x.e.got.length) (hf : x.e.free≠0) :
  Calls Tryz.prog 213 #[.pointer (some ⟨xb,0,none⟩),.int .i64 c,.int .i64 o',.int .i64 n'] w fun e w'=>∃ y v,Ct.casR c o' n' x=Ct.out y v∧e=.returned (.bool v)∧SH B w' (XA xb mb y::L):=by
 have hb:=hx.big
 have hxa:=hx.a
 have hfr:=hx.free
 unfold Ct.X.size Ct.roomMax at hb
 refine bn0 Tryz.func213 Tryz.ntmps213 h fun w h=>?_
 refine j310 (known_any _ _ _ (⟨2,c,o',n'⟩) h.to hx) fun y o n q w h=>?_
 rw [known_n hs ha hf] at q
 cases q
 refine go h fun w h=>?_
 obtain ⟨⟨pg,cg,pm,cm,pq,cq,pi,ci⟩,h⟩:=h.xo
 have h : SH B w (bl xb (exV mb ({ x.e with free:=x.e.free - 1 }) ⟨pg,cg,pm,cm,pq,cq,pi,ci⟩) 115::osl 36 1 (.slice pg x.e.got.length cg) x.e.got.length (x.e.got.map (Value.int .i64))::osl 36 1 (.slice pm x.e.made.length cm) x.e.made.length (x.e.made.map (Value.int .i64))::osl 33 1 (.slice pq x.e.cells.length cq) x.e.cells.length (x.e.cells.map (Value.int .i64))::osl 3 1 (.slice pi x.e.gens.length ci) x.e.gens.length (x.e.gens.map (Value.int .i64))::memA mb x.s::L):=h
 refine go h fun w h=>?_
 refine j000 (cas_any _ _ _ _ _ h.to (by unfold Ct.St.size; unfold Ct.St.size at hb; omega)) fun w h=>?_
 refine qc h (fun hd1 w h=>?_) fun hd1 w h=>?_
 refine drG (F:=[bl xb (exV mb ({ x.e with free:=x.e.free - 1 }) ⟨pg,cg,pm,cm,pq,cq,pi,ci⟩) 115]) [(true,[1]),(false,[3]),(true,[5,7,9,11,13,19,21,23,25]),(false,[27]),(true,[14,16,29,31]),(false,[32,35,37,38])] (by kernel_rfl) h (fun w h=>(hC (h.at_ a1) hN)) fun w h=>go h fun w h=>?_
 refine ff (bu [.int .i64 1] h Slc.h Ss.h rfl (by kernel_rfl) rfl (by decide) (by decide)) ?_
 rintro _ w ⟨b2,rfl,h⟩
 refine gz h fun w h=>?_
 refine ff (ap h Slc.h rfl Ss.h rfl (by decide) rfl rfl (fun _=>u3) (h.ro a0) (by simp [Value.oneCell']) rfl (join_ints _ _) (by unfold maxLen; omega) (by omega)) ?_
 rintro _ w ⟨p3,c4,rfl,h⟩
 refine gz h fun w h=>?_
 obtain ⟨b5,rfl⟩:=h.fp a3 (by omega)
 refine drH [1,3,5,7,9,11,13,15,17,19,21,23,25,27,29,31,33,35,36] (by kernel_rfl) h (.c r2 (.c r2 .n)) fun w h=>go h fun w h=>?_
 refine tk (fun W H=>bs ((x.e.a : Nat) : Int))<|go h fun w h=>?_
 exact rz ⟨_,_,casR_t hs ha hf hxa hd1,rfl,SH.xi ⟨some ⟨b5,0,none⟩,c4,pm,cm,pq,cq,pi,ci⟩ (by unfold exL exV; (try unfold Ct.newX); dsimp only; rw [List.length_append,List.length_singleton]; exact h.to)⟩
 refine drG (F:=[bl xb (exV mb ({ x.e with free:=x.e.free - 1 }) ⟨pg,cg,pm,cm,pq,cq,pi,ci⟩) 115]) [(true,[1]),(false,[3]),(true,[5,7,9,11,13,19,21,23,25]),(false,[27]),(true,[14,16,29,31]),(false,[32,35,37,38])] (by kernel_rfl) h (fun w h=>(hC (h.at_ a1) hN)) fun w h=>go h fun w h=>?_
 refine ff (bu [.int .i64 0] h Slc.h Ss.h rfl (by kernel_rfl) rfl (by decide) (by decide)) ?_
 rintro _ w ⟨b6,rfl,h⟩
 refine gz h fun w h=>?_
 refine ff (ap h Slc.h rfl Ss.h rfl (by decide) rfl rfl (fun _=>u3) (h.ro a0) (by simp [Value.oneCell']) rfl (join_ints _ _) (by unfold maxLen; omega) (by omega)) ?_
 rintro _ w ⟨p7,c8,rfl,h⟩
 refine gz h fun w h=>?_
 obtain ⟨b9,rfl⟩:=h.fp a3 (by omega)
 refine drH [1,3,5,7,9,11,13,15,17,19,21,23,25,27,29,31,33,35,36] (by kernel_rfl) h (.c r2 (.c r2 .n)) fun w h=>go h fun w h=>?_
 refine tk (fun W H=>bs ((x.e.a : Nat) : Int))<|go h fun w h=>?_
 exact rz ⟨_,_,casR_e hs ha hf hxa hd1,rfl,SH.xi ⟨some ⟨b9,0,none⟩,c8,pm,cm,pq,cq,pi,ci⟩ (by unfold exL exV; (try unfold Ct.newX); dsimp only; rw [List.length_append,List.length_singleton]; exact h.to)⟩
theorem allocR_s_any (xb mb : Nat) (x : Ct.X) (n : Ct.Node) (q : Lq) (i : Int) (h : SH B w (nodeR n q::XA xb mb x::L)) (hx : Ct.Ok 0 x) (hs : x.e.stopped=true) (hn : n.Fit (x.s.added.length+1)) :
  Calls Tryz.prog 216 #[.pointer (some ⟨xb,0,none⟩),.agg (nodeC n q).toArray,.int .i64 i] w fun e w'=>∃ y v,Ct.allocR n i x=Ct.out y v∧e=.returned (.int .i64 v)∧SH B w' (XA xb mb y::L):=by
 have hb:=hx.big
 have hxa:=hx.a
 have hfr:=hx.free
 unfold Ct.X.size Ct.roomMax at hb
 have hxm:=hx.m
 have hxc:=hx.c
 have hxg:=hx.g
 refine bn0 Tryz.func216 Tryz.ntmps216 h fun w h=>?_
 refine jX h fun b1 w h=>?_
 refine st (ld (v:=.bool x.e.stopped) One.h rfl (h.xc a2 fun _=>rfl))<|go h fun w h=>?_
 exact rz ⟨_,0,allocR_s hs,rfl,h.drop.drop⟩
theorem allocR_n_any (xb mb : Nat) (x : Ct.X) (n : Ct.Node) (q : Lq) (i : Int) (h : SH B w (nodeR n q::XA xb mb x::L)) (hx : Ct.Ok 0 x) (hs : x.e.stopped=false) (hm : x.e.m=x.e.made.length) (hn : n.Fit (x.s.added.length+1)) :
  Calls Tryz.prog 216 #[.pointer (some ⟨xb,0,none⟩),.agg (nodeC n q).toArray,.int .i64 i] w fun e w'=>∃ y v,Ct.allocR n i x=Ct.out y v∧e=.returned (.int .i64 v)∧SH B w' (XA xb mb y::L):=by
 have hb:=hx.big
 have hxa:=hx.a
 have hfr:=hx.free
 unfold Ct.X.size Ct.roomMax at hb
 have hxm:=hx.m
 have hxc:=hx.c
 have hxg:=hx.g
 refine bn0 Tryz.func216 Tryz.ntmps216 h fun w h=>?_
 refine jX h fun b1 w h=>?_
 refine st (ld (v:=.bool x.e.stopped) One.h rfl (h.xc a2 fun _=>rfl))<|go h fun w h=>?_
 have h:=h.fr (.c r2 .n)
 obtain ⟨⟨pg,cg,pm,cm,pq,cq,pi,ci⟩,h⟩:=h.xo
 have h : SH B w (bl xb (exV mb x.e ⟨pg,cg,pm,cm,pq,cq,pi,ci⟩) 115::osl 36 1 (.slice pg x.e.got.length cg) x.e.got.length (x.e.got.map (Value.int .i64))::osl 36 1 (.slice pm x.e.made.length cm) x.e.made.length (x.e.made.map (Value.int .i64))::osl 33 1 (.slice pq x.e.cells.length cq) x.e.cells.length (x.e.cells.map (Value.int .i64))::osl 3 1 (.slice pi x.e.gens.length ci) x.e.gens.length (x.e.gens.map (Value.int .i64))::memA mb x.s::bl b1 (nodeC n q) 77::nodeR n q::L):=h
 refine drH [1,3,5,7,9,11,13,15,17,19] (by kernel_rfl) h (.c r0 .n) fun w h=>go h fun w h=>?_
 refine ct rfl (beq_iff_eq.2 (by omega))<|drG (F:=[bl xb (exV mb x.e ⟨pg,cg,pm,cm,pq,cq,pi,ci⟩) 115,bl b1 (nodeC n q) 77]) [(true,[1,3,5,7,9,11,13,15,17,19,21,22,24,26,29,31]),(false,[32])] (by kernel_rfl) h (fun w h=>(hC (h.at_ a0) (hC (h.at_ a6) hN))) fun w h=>go h fun w h=>?_
 refine s000 (alloc_any _ _ _ _ _ h.to (by unfold Ct.St.size; unfold Ct.St.size at hb; omega) hn.1.1 (by have:=hn.1.2.1; unfold Ct.St.size at hb; omega)) fun w h=>?_
 refine ff (bu [.int .i64 ((x.s.alloc n i).2)] h Slc.h Ss.h rfl (by kernel_rfl) rfl (by decide) (by decide)) ?_
 rintro _ w ⟨b2,rfl,h⟩
 refine gz h fun w h=>?_
 refine ff (ap h Slc.h rfl Ss.h rfl (by decide) rfl rfl (fun _=>u4) (h.ro a0) (by simp [Value.oneCell']) rfl (join_ints _ _) (by unfold maxLen; omega) (by omega)) ?_
 rintro _ w ⟨p3,c4,rfl,h⟩
 refine gz h fun w h=>?_
 obtain ⟨b5,rfl⟩:=h.fp a4 (by omega)
 refine drH [1,3,5,7,9,11,13,15,17,19,21,22] (by kernel_rfl) h (.c r2 (.c r3 .n)) fun w h=>go h fun w h=>?_
 refine tk (fun W H=>bs ((x.e.m : Nat) : Int))<|go h fun w h=>?_
 exact rz ⟨_,_,allocR_n hs hm,rfl,SH.xi ⟨pg,cg,some ⟨b5,0,none⟩,c4,pq,cq,pi,ci⟩ (by unfold exL exV; dsimp only; rw [List.length_append,List.length_singleton]; exact (h.to.fr (.c r1 (.c r1 (.c r1 (.c r1 (.c r1 .n)))))))⟩
theorem allocR_o_any (xb mb : Nat) (x : Ct.X) (n : Ct.Node) (q : Lq) (i : Int) (h : SH B w (nodeR n q::XA xb mb x::L)) (hx : Ct.Ok 0 x) (hs : x.e.stopped=false) (hm : x.e.m<x.e.made.length) (hn : n.Fit (x.s.added.length+1)) :
  Calls Tryz.prog 216 #[.pointer (some ⟨xb,0,none⟩),.agg (nodeC n q).toArray,.int .i64 i] w fun e w'=>∃ y v,Ct.allocR n i x=Ct.out y v∧e=.returned (.int .i64 v)∧SH B w' (XA xb mb y::L):=by
 have hb:=hx.big
 have hxa:=hx.a
 have hfr:=hx.free
 unfold Ct.X.size Ct.roomMax at hb
 have hxm:=hx.m
 have hxc:=hx.c
 have hxg:=hx.g
 refine bn0 Tryz.func216 Tryz.ntmps216 h fun w h=>?_
 refine jX h fun b1 w h=>?_
 refine st (ld (v:=.bool x.e.stopped) One.h rfl (h.xc a2 fun _=>rfl))<|go h fun w h=>?_
 have h:=h.fr (.c r2 .n)
 obtain ⟨⟨pg,cg,pm,cm,pq,cq,pi,ci⟩,h⟩:=h.xo
 have h : SH B w (bl xb (exV mb x.e ⟨pg,cg,pm,cm,pq,cq,pi,ci⟩) 115::osl 36 1 (.slice pg x.e.got.length cg) x.e.got.length (x.e.got.map (Value.int .i64))::osl 36 1 (.slice pm x.e.made.length cm) x.e.made.length (x.e.made.map (Value.int .i64))::osl 33 1 (.slice pq x.e.cells.length cq) x.e.cells.length (x.e.cells.map (Value.int .i64))::osl 3 1 (.slice pi x.e.gens.length ci) x.e.gens.length (x.e.gens.map (Value.int .i64))::memA mb x.s::bl b1 (nodeC n q) 77::nodeR n q::L):=h
 refine drH [1,3,5,7,9,11,13,15,17,19] (by kernel_rfl) h (.c r0 .n) fun w h=>go h fun w h=>?_
 refine cf rfl (beq_eq_false_iff_ne.2 (by omega))<|go h fun w h=>?_
 obtain ⟨b2,rfl⟩:=h.fp a2 (by omega)
 refine drH [1,3,5,7,9,11,13,15,17,19,21,22] (by kernel_rfl) h (.c r0 (.c r1 .n)) fun w h=>go h fun w h=>?_
 refine tk (fun W H=>bs ((x.e.m : Nat) : Int))<|go h fun w h=>?_
 exact rz ⟨_,_,allocR_o hs hm,rfl,SH.xi ⟨pg,cg,some ⟨b2,0,none⟩,cm,pq,cq,pi,ci⟩ (h.to)⟩
theorem cellR_s_any (xb mb : Nat) (x : Ct.X) (i : Int) (h : SH B w (XA xb mb x::L)) (hx : Ct.Ok 0 x) (hs : x.e.stopped=true) :
  Calls Tryz.prog 228 #[.pointer (some ⟨xb,0,none⟩),.int .i64 i] w fun e w'=>∃ y v,Ct.cellR i x=Ct.out y v∧e=.returned (.int .i64 v)∧SH B w' (XA xb mb y::L):=by
 have hb:=hx.big
 have hxa:=hx.a
 have hfr:=hx.free
 unfold Ct.X.size Ct.roomMax at hb
 have hxm:=hx.m
 have hxc:=hx.c
 have hxg:=hx.g
 refine bn0 Tryz.func228 Tryz.ntmps228 h fun w h=>?_
 refine st (ld (v:=.bool x.e.stopped) One.h rfl (h.xc a0 fun _=>rfl))<|go h fun w h=>?_
 exact rz ⟨_,0,cellR_s hs,rfl,h⟩
theorem cellR_n_any (xb mb : Nat) (x : Ct.X) (i : Int) (h : SH B w (XA xb mb x::L)) (hx : Ct.Ok 0 x) (hs : x.e.stopped=false) (hm : x.e.c=x.e.cells.length) :
  Calls Tryz.prog 228 #[.pointer (some ⟨xb,0,none⟩),.int .i64 i] w fun e w'=>∃ y v,Ct.cellR i x=Ct.out y v∧e=.returned (.int .i64 v)∧SH B w' (XA xb mb y::L):=by
 have hb:=hx.big
 have hxa:=hx.a
 have hfr:=hx.free
 unfold Ct.X.size Ct.roomMax at hb
 have hxm:=hx.m
 have hxc:=hx.c
 have hxg:=hx.g
 refine bn0 Tryz.func228 Tryz.ntmps228 h fun w h=>?_
 refine st (ld (v:=.bool x.e.stopped) One.h rfl (h.xc a0 fun _=>rfl))<|go h fun w h=>?_
 obtain ⟨⟨pg,cg,pm,cm,pq,cq,pi,ci⟩,h⟩:=h.xo
 have h : SH B w (bl xb (exV mb x.e ⟨pg,cg,pm,cm,pq,cq,pi,ci⟩) 115::osl 36 1 (.slice pg x.e.got.length cg) x.e.got.length (x.e.got.map (Value.int .i64))::osl 36 1 (.slice pm x.e.made.length cm) x.e.made.length (x.e.made.map (Value.int .i64))::osl 33 1 (.slice pq x.e.cells.length cq) x.e.cells.length (x.e.cells.map (Value.int .i64))::osl 3 1 (.slice pi x.e.gens.length ci) x.e.gens.length (x.e.gens.map (Value.int .i64))::memA mb x.s::L):=h
 refine drH [1,3,5,7,9,11,13,15,17,19] (by kernel_rfl) h (.c r0 .n) fun w h=>go h fun w h=>?_
 refine ct rfl (beq_iff_eq.2 (by omega))<|drG (F:=[bl xb (exV mb x.e ⟨pg,cg,pm,cm,pq,cq,pi,ci⟩) 115]) [(true,[1,3,5,7,9,11,13,15,17,19,20,22,24,27,29]),(false,[30])] (by kernel_rfl) h (fun w h=>(hC (h.at_ a0) hN)) fun w h=>go h fun w h=>?_
 refine s000 (newCell_any _ _ _ h.to (by unfold Ct.St.size; unfold Ct.St.size at hb; omega)) fun w h=>?_
 refine ff (bu [.int .i64 ((x.s.newCell i).2)] h Slc.h Ss.h rfl (by kernel_rfl) rfl (by decide) (by decide)) ?_
 rintro _ w ⟨b1,rfl,h⟩
 refine gz h fun w h=>?_
 refine ff (ap h Slc.h rfl Ss.h rfl (by decide) rfl rfl (fun _=>u5) (h.ro a0) (by simp [Value.oneCell']) rfl (join_ints _ _) (by unfold maxLen; omega) (by omega)) ?_
 rintro _ w ⟨p2,c3,rfl,h⟩
 refine gz h fun w h=>?_
 obtain ⟨b4,rfl⟩:=h.fp a5 (by omega)
 refine drH [1,3,5,7,9,11,13,15,17,19,21,22] (by kernel_rfl) h (.c r2 (.c r4 .n)) fun w h=>go h fun w h=>?_
 refine tk (fun W H=>bs ((x.e.c : Nat) : Int))<|go h fun w h=>?_
 exact rz ⟨_,_,cellR_n hs hm,rfl,SH.xi ⟨pg,cg,pm,cm,some ⟨b4,0,none⟩,c3,pi,ci⟩ (by unfold exL exV; dsimp only; rw [List.length_append,List.length_singleton]; exact h.to)⟩
theorem cellR_o_any (xb mb : Nat) (x : Ct.X) (i : Int) (h : SH B w (XA xb mb x::L)) (hx : Ct.Ok 0 x) (hs : x.e.stopped=false) (hm : x.e.c<x.e.cells.length) :
  Calls Tryz.prog 228 #[.pointer (some ⟨xb,0,none⟩),.int .i64 i] w fun e w'=>∃ y v,Ct.cellR i x=Ct.out y v∧e=.returned (.int .i64 v)∧SH B w' (XA xb mb y::L):=by
 have hb:=hx.big
 have hxa:=hx.a
 have hfr:=hx.free
 unfold Ct.X.size Ct.roomMax at hb
 have hxm:=hx.m
 have hxc:=hx.c
 have hxg:=hx.g
 refine bn0 Tryz.func228 Tryz.ntmps228 h fun w h=>?_
 refine st (ld (v:=.bool x.e.stopped) One.h rfl (h.xc a0 fun _=>rfl))<|go h fun w h=>?_
 obtain ⟨⟨pg,cg,pm,cm,pq,cq,pi,ci⟩,h⟩:=h.xo
 have h : SH B w (bl xb (exV mb x.e ⟨pg,cg,pm,cm,pq,cq,pi,ci⟩) 115::osl 36 1 (.slice pg x.e.got.length cg) x.e.got.length (x.e.got.map (Value.int .i64))::osl 36 1 (.slice pm x.e.made.length cm) x.e.made.length (x.e.made.map (Value.int .i64))::osl 33 1 (.slice pq x.e.cells.length cq) x.e.cells.length (x.e.cells.map (Value.int .i64))::osl 3 1 (.slice pi x.e.gens.length ci) x.e.gens.length (x.e.gens.map (Value.int .i64))::memA mb x.s::L):=h
 refine drH [1,3,5,7,9,11,13,15,17,19] (by kernel_rfl) h (.c r0 .n) fun w h=>go h fun w h=>?_
 refine cf rfl (beq_eq_false_iff_ne.2 (by omega))<|go h fun w h=>?_
 obtain ⟨b1,rfl⟩:=h.fp a3 (by omega)
 refine drH [1,3,5,7,9,11,13,15,17,19,21,22] (by kernel_rfl) h (.c r0 (.c r2 .n)) fun w h=>go h fun w h=>?_
 refine tk (fun W H=>bs ((x.e.c : Nat) : Int))<|go h fun w h=>?_
 exact rz ⟨_,_,cellR_o hs hm,rfl,SH.xi ⟨pg,cg,pm,cm,some ⟨b1,0,none⟩,cq,pi,ci⟩ (h)⟩
theorem genR_s_any (xb mb : Nat) (x : Ct.X) (h : SH B w (XA xb mb x::L)) (hx : Ct.Ok 0 x) (hs : x.e.stopped=true) :
  Calls Tryz.prog 230 #[.pointer (some ⟨xb,0,none⟩)] w fun e w'=>∃ y v,Ct.genR x=Ct.out y v∧e=.returned (.int .i64 v)∧SH B w' (XA xb mb y::L):=by
 have hb:=hx.big
 have hxa:=hx.a
 have hfr:=hx.free
 unfold Ct.X.size Ct.roomMax at hb
 have hxm:=hx.m
 have hxc:=hx.c
 have hxg:=hx.g
 refine bn0 Tryz.func230 Tryz.ntmps230 h fun w h=>?_
 refine st (ld (v:=.bool x.e.stopped) One.h rfl (h.xc a0 fun _=>rfl))<|go h fun w h=>?_
 exact rz ⟨_,0,genR_s hs,rfl,h⟩
theorem genR_n_any (xb mb : Nat) (x : Ct.X) (h : SH B w (XA xb mb x::L)) (hx : Ct.Ok 0 x) (hs : x.e.stopped=false) (hm : x.e.g=x.e.gens.length) :
  Calls Tryz.prog 230 #[.pointer (some ⟨xb,0,none⟩)] w fun e w'=>∃ y v,Ct.genR x=Ct.out y v∧e=.returned (.int .i64 v)∧SH B w' (XA xb mb y::L):=by
 have hb:=hx.big
 have hxa:=hx.a
 have hfr:=hx.free
 unfold Ct.X.size Ct.roomMax at hb
 have hxm:=hx.m
 have hxc:=hx.c
 have hxg:=hx.g
 refine bn0 Tryz.func230 Tryz.ntmps230 h fun w h=>?_
 refine st (ld (v:=.bool x.e.stopped) One.h rfl (h.xc a0 fun _=>rfl))<|go h fun w h=>?_
 obtain ⟨⟨pg,cg,pm,cm,pq,cq,pi,ci⟩,h⟩:=h.xo
 have h : SH B w (bl xb (exV mb x.e ⟨pg,cg,pm,cm,pq,cq,pi,ci⟩) 115::osl 36 1 (.slice pg x.e.got.length cg) x.e.got.length (x.e.got.map (Value.int .i64))::osl 36 1 (.slice pm x.e.made.length cm) x.e.made.length (x.e.made.map (Value.int .i64))::osl 33 1 (.slice pq x.e.cells.length cq) x.e.cells.length (x.e.cells.map (Value.int .i64))::osl 3 1 (.slice pi x.e.gens.length ci) x.e.gens.length (x.e.gens.map (Value.int .i64))::memA mb x.s::L):=h
 refine drH [1,3,5,7,9,11,13,15,17,19] (by kernel_rfl) h (.c r0 .n) fun w h=>go h fun w h=>?_
 refine ct rfl (beq_iff_eq.2 (by omega))<|drG (F:=[bl xb (exV mb x.e ⟨pg,cg,pm,cm,pq,cq,pi,ci⟩) 115]) [(true,[1,3,5,7,9,11,13,15,17,18,20,22,25,27]),(false,[28])] (by kernel_rfl) h (fun w h=>(hC (h.at_ a0) hN)) fun w h=>go h fun w h=>?_
 refine s000 (newGen_any _ _ h.to (by unfold Ct.St.size; unfold Ct.St.size at hb; omega)) fun w h=>?_
 refine ff (bu [.int .i64 x.s.newGen.2] h Slc.h Ss.h rfl (by kernel_rfl) rfl (by decide) (by decide)) ?_
 rintro _ w ⟨b1,rfl,h⟩
 refine gz h fun w h=>?_
 refine ff (ap h Slc.h rfl Ss.h rfl (by decide) rfl rfl (fun _=>u6) (h.ro a0) (by simp [Value.oneCell']) rfl (join_ints _ _) (by unfold maxLen; omega) (by omega)) ?_
 rintro _ w ⟨p2,c3,rfl,h⟩
 refine gz h fun w h=>?_
 obtain ⟨b4,rfl⟩:=h.fp a6 (by omega)
 refine drH [1,3,5,7,9,11,13,15,17,19,21,22] (by kernel_rfl) h (.c r2 (.c r5 .n)) fun w h=>go h fun w h=>?_
 refine tk (fun W H=>bs ((x.e.g : Nat) : Int))<|go h fun w h=>?_
 exact rz ⟨_,_,genR_n hs hm,rfl,SH.xi ⟨pg,cg,pm,cm,pq,cq,some ⟨b4,0,none⟩,c3⟩ (by unfold exL exV; dsimp only; rw [List.length_append,List.length_singleton]; exact h.to)⟩
theorem genR_o_any (xb mb : Nat) (x : Ct.X) (h : SH B w (XA xb mb x::L)) (hx : Ct.Ok 0 x) (hs : x.e.stopped=false) (hm : x.e.g<x.e.gens.length) :
  Calls Tryz.prog 230 #[.pointer (some ⟨xb,0,none⟩)] w fun e w'=>∃ y v,Ct.genR x=Ct.out y v∧e=.returned (.int .i64 v)∧SH B w' (XA xb mb y::L):=by
 have hb:=hx.big
 have hxa:=hx.a
 have hfr:=hx.free
 unfold Ct.X.size Ct.roomMax at hb
 have hxm:=hx.m
 have hxc:=hx.c
 have hxg:=hx.g
 refine bn0 Tryz.func230 Tryz.ntmps230 h fun w h=>?_
 refine st (ld (v:=.bool x.e.stopped) One.h rfl (h.xc a0 fun _=>rfl))<|go h fun w h=>?_
 obtain ⟨⟨pg,cg,pm,cm,pq,cq,pi,ci⟩,h⟩:=h.xo
 have h : SH B w (bl xb (exV mb x.e ⟨pg,cg,pm,cm,pq,cq,pi,ci⟩) 115::osl 36 1 (.slice pg x.e.got.length cg) x.e.got.length (x.e.got.map (Value.int .i64))::osl 36 1 (.slice pm x.e.made.length cm) x.e.made.length (x.e.made.map (Value.int .i64))::osl 33 1 (.slice pq x.e.cells.length cq) x.e.cells.length (x.e.cells.map (Value.int .i64))::osl 3 1 (.slice pi x.e.gens.length ci) x.e.gens.length (x.e.gens.map (Value.int .i64))::memA mb x.s::L):=h
 refine drH [1,3,5,7,9,11,13,15,17,19] (by kernel_rfl) h (.c r0 .n) fun w h=>go h fun w h=>?_
 refine cf rfl (beq_eq_false_iff_ne.2 (by omega))<|go h fun w h=>?_
 obtain ⟨b1,rfl⟩:=h.fp a4 (by omega)
 refine drH [1,3,5,7,9,11,13,15,17,19,21,22] (by kernel_rfl) h (.c r0 (.c r3 .n)) fun w h=>go h fun w h=>?_
 refine tk (fun W H=>bs ((x.e.g : Nat) : Int))<|go h fun w h=>?_
 exact rz ⟨_,_,genR_o hs hm,rfl,SH.xi ⟨pg,cg,pm,cm,pq,cq,some ⟨b1,0,none⟩,ci⟩ (h)⟩
end Go.Proofs.YtmliojdkmfhmmaaGreat
end
section
namespace Go.Proofs.YtmliojdkmfhmmaaGreat
open Go.E
end Go.Proofs.YtmliojdkmfhmmaaGreat
end
section
namespace Go.Proofs.YtmliojdkmfhmmaaGreat
open Go.E
theorem row_35 : rowN Tryz.prog 35 = some 2:=by kernel_rfl
theorem en_167 : Ents Tryz.prog 167:=enG Tryz.func167 rfl rfl
theorem en_166 : Ents Tryz.prog 166:=enG Tryz.func166 rfl rfl
end Go.Proofs.YtmliojdkmfhmmaaGreat
end
section
namespace Go.Proofs.YtmliojdkmfhmmaaGreat
open Go.E
theorem eq_132 : eqf Tryz.prog 132 = some [.s,.i .u64]:=by kernel_rfl
theorem fo_132_0 : fo Tryz.prog 132 0=some 0:=by kernel_rfl
theorem one_28 : oneC Tryz.prog 28 = true:=by kernel_rfl
theorem one_9 : oneC Tryz.prog 9 = true:=by kernel_rfl
theorem row_132 : rowN Tryz.prog 132 = some 2:=by kernel_rfl
theorem sz_132 : (Tryz.prog.info? 132).map (·.size)=some 2:=by kernel_rfl
theorem un_9 : Tryz.prog.underlying 9 = some (.string):=by kernel_rfl
theorem en_287 : Ents Tryz.prog 287:=enG Tryz.func287 rfl rfl
theorem en_192 : Ents Tryz.prog 192:=enG Tryz.func192 rfl rfl
theorem en_193 : Ents Tryz.prog 193:=enG Tryz.func193 rfl rfl
end Go.Proofs.YtmliojdkmfhmmaaGreat
end
