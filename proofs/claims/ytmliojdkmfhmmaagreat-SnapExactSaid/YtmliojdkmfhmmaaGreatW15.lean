/- Parts of a proof: Rn. -/
import Derived.Test.YtmliojdkmfhmmaaGreatW09
import Derived.Test.YtmliojdkmfhmmaaGreatW14
import Derived.Test.YtmliojdkmfhmmaaGreatW04
set_option linter.unusedVariables false
set_option linter.unusedSimpArgs false
set_option maxRecDepth 100000
set_option maxHeartbeats 4000000
section
namespace Go.Proofs.YtmliojdkmfhmmaaGreat
attribute [local irreducible] Go.E.wpL Go.E.wpS Go.E.X Go.E.XS Go.E.C Go.E.thn Go.E.blk Go.E.fin Go.E.Y Go.E.U Go.E.F Go.E.Ca Go.E.Res Go.E.bl Go.E.rb Go.E.osl Go.E.rsl Go.E.ex Go.E.ce Go.E.pu Go.E.sK Go.E.gK Go.E.bK Go.E.zK
open Go.RowKit Go.E
def knownR (want : Ct.Acc) (x : Ct.X) : Ct.X × Bool × Bool :=
 if x.e.stopped=true then (x,false,false)
 else if x.e.a<x.e.got.length then (Ct.oldX x,true,false)
 else if x.e.free=0 then (Ct.stopX want x,false,false)
 else ({ x with e:={ x.e with free:=x.e.free - 1 } },false,true)
theorem known_s {a : Ct.Acc} {x : Ct.X} (h : x.e.stopped=true) : knownR a x=(x,false,false):=by unfold knownR; rw [if_pos h]
theorem known_o {a : Ct.Acc} {x : Ct.X} (h : x.e.stopped=false) (h1 : x.e.a<x.e.got.length) : knownR a x=(Ct.oldX x,true,false):=by unfold knownR; rw [if_neg (by rw [h]; decide),if_pos h1]
theorem known_f {a : Ct.Acc} {x : Ct.X} (h : x.e.stopped=false) (h1 : ¬ x.e.a<x.e.got.length) (h2 : x.e.free=0) : knownR a x=(Ct.stopX a x,false,false):=by unfold knownR; rw [if_neg (by rw [h]; decide),if_neg h1,if_pos h2]
theorem known_n {a : Ct.Acc} {x : Ct.X} (h : x.e.stopped=false) (h1 : ¬ x.e.a<x.e.got.length) (h2 : x.e.free≠0) : knownR a x=({ x with e:={ x.e with free:=x.e.free - 1 } },false,true):=by unfold knownR; rw [if_neg (by rw [h]; decide),if_neg h1,if_neg h2]
variable {B w : World} {L : List As}
theorem memNode_x (xb mb : Nat) (x : Ct.X) (r : Int) (h : SH B w (XA xb mb x::L)) (hx : x.s.size≤100000000000) :
  Calls Tryz.prog 256 #[.pointer (some ⟨mb,0,none⟩),.int .i64 r] w fun e w'=>∃ q,e=.returned (.agg (nodeC (x.node r) q).toArray)∧SH B w' (nodeR (x.node r) q::XA xb mb x::L):=by
 refine (node_any mb x.s r (h.se.fr (.c r1 .n)) hx).mono ?_
 rintro e w' ⟨q,rfl,h⟩
 exact ⟨q,rfl,(SH.is (l:=[exA xb mb x.e,memA mb x.s]) (h.fr (.c r2 (.c r1 .n)))).fr (.c r1 .n)⟩
theorem loadR_s {c : Int} {x : Ct.X} (h : x.e.stopped=true) : Ct.loadR c x=Ct.out x 0:=by unfold Ct.loadR; rw [if_pos h,Ct.out_none h]
theorem loadR_o {c : Int} {x : Ct.X} (h : x.e.stopped=false) (h1 : x.e.a<x.e.got.length) : Ct.loadR c x=Ct.out (Ct.oldX x) (x.e.got.getD x.e.a 0):=by
 unfold Ct.loadR; rw [if_neg (by rw [h]; decide),if_pos h1,Ct.out_some (y:=Ct.oldX x) (show (Ct.oldX x).e.stopped=false from h)]
theorem loadR_f {c : Int} {x : Ct.X} (h : x.e.stopped=false) (h1 : ¬ x.e.a<x.e.got.length) (h2 : x.e.free=0) : Ct.loadR c x=Ct.out (Ct.stopX ⟨1,c,0,0⟩ x) 0:=by
 unfold Ct.loadR; rw [if_neg (by rw [h]; decide),if_neg h1,if_pos h2,Ct.out_none rfl]
theorem got_last {l : List Int} {a : Nat} {v : Int} (h : ¬ a<l.length) (h2 : a≤l.length) : (l ++ [v]).getD a 0=v:=by
 have e : a=l.length:=by omega
 rw [e]; simp
theorem loadR_n {c : Int} {x : Ct.X} (h : x.e.stopped=false) (h1 : ¬ x.e.a<x.e.got.length) (h2 : x.e.free≠0) (h3 : x.e.a≤x.e.got.length) : Ct.loadR c x=Ct.out (Ct.newX (x.s.load c).2 (x.s.load c).1 x) ((x.e.got ++ [(x.s.load c).2]).getD x.e.a 0):=by
 unfold Ct.loadR; rw [if_neg (by rw [h]; decide),if_neg h1,if_neg h2,Ct.out_some (show (Ct.newX (x.s.load c).2 (x.s.load c).1 x).e.stopped=false from h),got_last h1 h3]
theorem casR_s {c a n : Int} {x : Ct.X} (h : x.e.stopped=true) : Ct.casR c a n x=Ct.out x false:=by unfold Ct.casR; rw [if_pos h,Ct.out_none h]
theorem casR_o {c a n : Int} {x : Ct.X} (h : x.e.stopped=false) (h1 : x.e.a<x.e.got.length) : Ct.casR c a n x=Ct.out (Ct.oldX x) (x.e.got.getD x.e.a 0==1):=by
 unfold Ct.casR; rw [if_neg (by rw [h]; decide),if_pos h1,Ct.out_some (y:=Ct.oldX x) (show (Ct.oldX x).e.stopped=false from h)]
theorem casR_f {c a n : Int} {x : Ct.X} (h : x.e.stopped=false) (h1 : ¬ x.e.a<x.e.got.length) (h2 : x.e.free=0) : Ct.casR c a n x=Ct.out (Ct.stopX ⟨2,c,a,n⟩ x) false:=by
 unfold Ct.casR; rw [if_neg (by rw [h]; decide),if_neg h1,if_pos h2,Ct.out_none rfl]
theorem casR_t {c a n : Int} {x : Ct.X} (h : x.e.stopped=false) (h1 : ¬ x.e.a<x.e.got.length) (h2 : x.e.free≠0) (h3 : x.e.a≤x.e.got.length) (hb : (x.s.cas c a n).2=true) : Ct.casR c a n x=Ct.out (Ct.newX 1 (x.s.cas c a n).1 x) ((x.e.got ++ [1]).getD x.e.a 0==1):=by
 unfold Ct.casR; rw [if_neg (by rw [h]; decide),if_neg h1,if_neg h2,hb,Ct.out_some (show (Ct.newX 1 (x.s.cas c a n).1 x).e.stopped=false from h),got_last h1 h3]; rfl
theorem casR_e {c a n : Int} {x : Ct.X} (h : x.e.stopped=false) (h1 : ¬ x.e.a<x.e.got.length) (h2 : x.e.free≠0) (h3 : x.e.a≤x.e.got.length) (hb : (x.s.cas c a n).2=false) : Ct.casR c a n x=Ct.out (Ct.newX 0 (x.s.cas c a n).1 x) ((x.e.got ++ [0]).getD x.e.a 0==1):=by
 unfold Ct.casR; rw [if_neg (by rw [h]; decide),if_neg h1,if_neg h2,hb,Ct.out_some (show (Ct.newX 0 (x.s.cas c a n).1 x).e.stopped=false from h),got_last h1 h3]; rfl
theorem got_end {l : List Int} {a : Nat} {v : Int} (h : a=l.length) : (l ++ [v]).getD a 0=v:=by rw [h]; simp
theorem allocR_s {n : Ct.Node} {i : Int} {x : Ct.X} (h : x.e.stopped=true) : Ct.allocR n i x=Ct.out x 0:=by unfold Ct.allocR; rw [if_pos h,Ct.out_none h]
theorem allocR_n {n : Ct.Node} {i : Int} {x : Ct.X} (h : x.e.stopped=false) (hm : x.e.m=x.e.made.length) : Ct.allocR n i x=Ct.out { e:={ x.e with made:=x.e.made ++ [(x.s.alloc n i).2],m:=x.e.m+1 },s:=(x.s.alloc n i).1 } ((x.e.made ++ [(x.s.alloc n i).2]).getD x.e.m 0):=by
 unfold Ct.allocR; rw [if_neg (by rw [h]; decide),if_pos hm,got_end hm]; unfold Ct.out; dsimp only; rw [if_neg (by rw [h]; decide)]
theorem allocR_o {n : Ct.Node} {i : Int} {x : Ct.X} (h : x.e.stopped=false) (hm : x.e.m<x.e.made.length) : Ct.allocR n i x=Ct.out { x with e:={ x.e with m:=x.e.m+1 } } (x.e.made.getD x.e.m 0):=by
 unfold Ct.allocR; rw [if_neg (by rw [h]; decide),if_neg (by omega)]; unfold Ct.out; dsimp only; rw [if_neg (by rw [h]; decide)]
theorem cellR_s {i : Int} {x : Ct.X} (h : x.e.stopped=true) : Ct.cellR i x=Ct.out x 0:=by unfold Ct.cellR; rw [if_pos h,Ct.out_none h]
theorem cellR_n {i : Int} {x : Ct.X} (h : x.e.stopped=false) (hm : x.e.c=x.e.cells.length) : Ct.cellR i x=Ct.out { e:={ x.e with cells:=x.e.cells ++ [(x.s.newCell i).2],c:=x.e.c+1 },s:=(x.s.newCell i).1 } ((x.e.cells ++ [(x.s.newCell i).2]).getD x.e.c 0):=by
 unfold Ct.cellR; rw [if_neg (by rw [h]; decide),if_pos hm,got_end hm]; unfold Ct.out; dsimp only; rw [if_neg (by rw [h]; decide)]
theorem cellR_o {i : Int} {x : Ct.X} (h : x.e.stopped=false) (hm : x.e.c<x.e.cells.length) : Ct.cellR i x=Ct.out { x with e:={ x.e with c:=x.e.c+1 } } (x.e.cells.getD x.e.c 0):=by
 unfold Ct.cellR; rw [if_neg (by rw [h]; decide),if_neg (by omega)]; unfold Ct.out; dsimp only; rw [if_neg (by rw [h]; decide)]
theorem genR_s {x : Ct.X} (h : x.e.stopped=true) : Ct.genR x=Ct.out x 0:=by unfold Ct.genR; rw [if_pos h,Ct.out_none h]
theorem genR_n {x : Ct.X} (h : x.e.stopped=false) (hm : x.e.g=x.e.gens.length) : Ct.genR x=Ct.out { e:={ x.e with gens:=x.e.gens ++ [x.s.newGen.2],g:=x.e.g+1 },s:=x.s.newGen.1 } ((x.e.gens ++ [x.s.newGen.2]).getD x.e.g 0):=by
 unfold Ct.genR; rw [if_neg (by rw [h]; decide),if_pos hm,got_end hm]; unfold Ct.out; dsimp only; rw [if_neg (by rw [h]; decide)]
theorem genR_o {x : Ct.X} (h : x.e.stopped=false) (hm : x.e.g<x.e.gens.length) : Ct.genR x=Ct.out { x with e:={ x.e with g:=x.e.g+1 } } (x.e.gens.getD x.e.g 0):=by
 unfold Ct.genR; rw [if_neg (by rw [h]; decide),if_neg (by omega)]; unfold Ct.out; dsimp only; rw [if_neg (by rw [h]; decide)]
theorem known_any (xb mb : Nat) (x : Ct.X) (a : Ct.Acc) (h : SH B w (XA xb mb x::L)) (hx : Ct.Ok 0 x) :
  Calls Tryz.prog 254 #[.pointer (some ⟨xb,0,none⟩),.agg (accV a).toArray] w fun e w'=>∃ y o n,knownR a x=(y,o,n)∧e=.returned (.tuple #[.bool o,.bool n])∧SH B w' (XA xb mb y::L):=by
 have hb:=hx.big
 have hxa:=hx.a
 have hfr:=hx.free
 unfold Ct.X.size Ct.roomMax at hb
 refine bn0 Tryz.func254 Tryz.ntmps254 h fun w h=>?_
 refine jX h fun b1 w h=>?_
 have h:=h.fr (.c r1 .n)
 obtain ⟨⟨pg,cg,pm,cm,pq,cq,pi,ci⟩,h⟩:=h.xo
 have h : SH B w (bl xb (exV mb x.e ⟨pg,cg,pm,cm,pq,cq,pi,ci⟩) 115::osl 36 1 (.slice pg x.e.got.length cg) x.e.got.length (x.e.got.map (Value.int .i64))::osl 36 1 (.slice pm x.e.made.length cm) x.e.made.length (x.e.made.map (Value.int .i64))::osl 33 1 (.slice pq x.e.cells.length cq) x.e.cells.length (x.e.cells.map (Value.int .i64))::osl 3 1 (.slice pi x.e.gens.length ci) x.e.gens.length (x.e.gens.map (Value.int .i64))::memA mb x.s::bl b1 (accV a) 106::L):=h
 refine go h fun w h=>?_
 refine qc h (fun hd2 w h=>?_) fun hd2 w h=>?_
 exact rr (res2 rfl rfl rfl)<|⟨x,_,_,known_s hd2,rfl,SH.xi ⟨pg,cg,pm,cm,pq,cq,pi,ci⟩ (h.to)⟩
 refine drH [1,3,5,7,9,11,13,15,17,19] (by kernel_rfl) h (.c r0 .n) fun w h=>go h fun w h=>?_
 refine qc h (fun hd3 w h=>?_) fun hd3 w h=>?_
 have hg4:=of_decide_eq_true hd3
 refine go h fun w h=>?_
 exact rr (res2 rfl rfl rfl)<|⟨Ct.oldX x,_,_,known_o hd2 (by omega),rfl,SH.xi ⟨pg,cg,pm,cm,pq,cq,pi,ci⟩ (h.to)⟩
 have hg5:=of_decide_eq_false hd3
 refine go h fun w h=>?_
 refine qc h (fun hd6 w h=>?_) fun hd6 w h=>?_
 have hg7:=eq_of_beq hd6
 refine go h fun w h=>?_
 refine drH [1,3,5,7,9,10,13,15,16] (by kernel_rfl) h (.c r6 .n) fun w h=>go h fun w h=>?_
 exact rr (res2 rfl rfl rfl)<|⟨Ct.stopX a x,_,_,known_f hd2 (by omega) (by omega),rfl,SH.xi ⟨pg,cg,pm,cm,pq,cq,pi,ci⟩ (h.to)⟩
 have hg8:=ne_of_beq_false hd6
 refine go h fun w h=>?_
 refine st (bs ((x.e.free - 1 : Nat) : Int))<|go h fun w h=>?_
 exact rr (res2 rfl rfl rfl)<|⟨{ x with e:={ x.e with free:=x.e.free - 1 } },_,_,known_n hd2 (by omega) (by omega),rfl,SH.xi ⟨pg,cg,pm,cm,pq,cq,pi,ci⟩ (h.to)⟩
theorem xnode_any (xb mb : Nat) (x : Ct.X) (r : Int) (h : SH B w (XA xb mb x::L)) (hx : x.s.size≤100000000000) :
  Calls Tryz.prog 212 #[.pointer (some ⟨xb,0,none⟩),.int .i64 r] w fun e w'=>∃ q,e=.returned (.agg (nodeC (x.node r) q).toArray)∧SH B w' (nodeR (x.node r) q::XA xb mb x::L):=by
 refine bn0 Tryz.func212 Tryz.ntmps212 h fun w h=>?_
 refine jA h fun b1 w h=>?_
 refine st (ld (v:=.pointer (some ⟨mb,0,none⟩)) One.h rfl (h.xc a1 fun _=>rfl))<|go h fun w h=>?_
 refine j100 (memNode_x _ _ _ _ h.to (by first | exact hx.big | omega)) fun q w h=>?_
 exact rr (resC rfl rfl (h.b a2) Row.h)<|⟨_,rfl,h.to⟩
theorem loadR_s_any (xb mb : Nat) (x : Ct.X) (c : Int) (h : SH B w (XA xb mb x::L)) (hx : Ct.Ok 0 x) (hs : x.e.stopped=true) :
  Calls Tryz.prog 211 #[.pointer (some ⟨xb,0,none⟩),.int .i64 c] w fun e w'=>∃ y v,Ct.loadR c x=Ct.out y v∧e=.returned (.int .i64 v)∧SH B w' (XA xb mb y::L):=by
 have hb:=hx.big
 have hxa:=hx.a
 have hfr:=hx.free
 unfold Ct.X.size Ct.roomMax at hb
 refine bn0 Tryz.func211 Tryz.ntmps211 h fun w h=>?_
 refine j310 (known_any _ _ _ (⟨1,c,0,0⟩) h.to hx) fun y o n q w h=>?_
 rw [known_s hs] at q
 cases q
 refine go h fun w h=>?_
 exact rz ⟨_,0,loadR_s hs,rfl,h⟩
theorem loadR_o_any (xb mb : Nat) (x : Ct.X) (c : Int) (h : SH B w (XA xb mb x::L)) (hx : Ct.Ok 0 x) (hs : x.e.stopped=false) (ha : x.e.a<x.e.got.length) :
  Calls Tryz.prog 211 #[.pointer (some ⟨xb,0,none⟩),.int .i64 c] w fun e w'=>∃ y v,Ct.loadR c x=Ct.out y v∧e=.returned (.int .i64 v)∧SH B w' (XA xb mb y::L):=by
 have hb:=hx.big
 have hxa:=hx.a
 have hfr:=hx.free
 unfold Ct.X.size Ct.roomMax at hb
 refine bn0 Tryz.func211 Tryz.ntmps211 h fun w h=>?_
 refine j310 (known_any _ _ _ (⟨1,c,0,0⟩) h.to hx) fun y o n q w h=>?_
 rw [known_o hs ha] at q
 cases q
 refine go h fun w h=>?_
 obtain ⟨⟨pg,cg,pm,cm,pq,cq,pi,ci⟩,h⟩:=h.xo
 have h : SH B w (bl xb (exV mb ({ x.e with a:=x.e.a+1 }) ⟨pg,cg,pm,cm,pq,cq,pi,ci⟩) 115::osl 36 1 (.slice pg x.e.got.length cg) x.e.got.length (x.e.got.map (Value.int .i64))::osl 36 1 (.slice pm x.e.made.length cm) x.e.made.length (x.e.made.map (Value.int .i64))::osl 33 1 (.slice pq x.e.cells.length cq) x.e.cells.length (x.e.cells.map (Value.int .i64))::osl 3 1 (.slice pi x.e.gens.length ci) x.e.gens.length (x.e.gens.map (Value.int .i64))::memA mb x.s::L):=h
 obtain ⟨b1,rfl⟩:=h.fp a1 (by omega)
 refine drH [1,3,5,7,9,11,13,15,17,19,21,22] (by kernel_rfl) h (.c r0 (.c r0 .n)) fun w h=>go h fun w h=>?_
 refine tk (fun W H=>bs ((x.e.a : Nat) : Int))<|go h fun w h=>?_
 exact rz ⟨_,_,loadR_o hs ha,rfl,SH.xi ⟨some ⟨b1,0,none⟩,cg,pm,cm,pq,cq,pi,ci⟩ (h)⟩
theorem loadR_f_any (xb mb : Nat) (x : Ct.X) (c : Int) (h : SH B w (XA xb mb x::L)) (hx : Ct.Ok 0 x) (hs : x.e.stopped=false) (ha : ¬ x.e.a<x.e.got.length) (hf : x.e.free=0) :
  Calls Tryz.prog 211 #[.pointer (some ⟨xb,0,none⟩),.int .i64 c] w fun e w'=>∃ y v,Ct.loadR c x=Ct.out y v∧e=.returned (.int .i64 v)∧SH B w' (XA xb mb y::L):=by
 have hb:=hx.big
 have hxa:=hx.a
 have hfr:=hx.free
 unfold Ct.X.size Ct.roomMax at hb
 refine bn0 Tryz.func211 Tryz.ntmps211 h fun w h=>?_
 refine j310 (known_any _ _ _ (⟨1,c,0,0⟩) h.to hx) fun y o n q w h=>?_
 rw [known_f hs ha hf] at q
 cases q
 refine go h fun w h=>?_
 exact rz ⟨_,0,loadR_f hs ha hf,rfl,h⟩
theorem loadR_n_any (xb mb : Nat) (x : Ct.X) (c : Int) (h : SH B w (XA xb mb x::L)) (hx : Ct.Ok 0 x) (hs : x.e.stopped=false) (ha : ¬ x.e.a<x.e.got.length) (hf : x.e.free≠0) :
  Calls Tryz.prog 211 #[.pointer (some ⟨xb,0,none⟩),.int .i64 c] w fun e w'=>∃ y v,Ct.loadR c x=Ct.out y v∧e=.returned (.int .i64 v)∧SH B w' (XA xb mb y::L):=by
 have hb:=hx.big
 have hxa:=hx.a
 have hfr:=hx.free
 unfold Ct.X.size Ct.roomMax at hb
 refine bn0 Tryz.func211 Tryz.ntmps211 h fun w h=>?_
 refine j310 (known_any _ _ _ (⟨1,c,0,0⟩) h.to hx) fun y o n q w h=>?_
 rw [known_n hs ha hf] at q
 cases q
 refine go h fun w h=>?_
 obtain ⟨⟨pg,cg,pm,cm,pq,cq,pi,ci⟩,h⟩:=h.xo
 have h : SH B w (bl xb (exV mb ({ x.e with free:=x.e.free - 1 }) ⟨pg,cg,pm,cm,pq,cq,pi,ci⟩) 115::osl 36 1 (.slice pg x.e.got.length cg) x.e.got.length (x.e.got.map (Value.int .i64))::osl 36 1 (.slice pm x.e.made.length cm) x.e.made.length (x.e.made.map (Value.int .i64))::osl 33 1 (.slice pq x.e.cells.length cq) x.e.cells.length (x.e.cells.map (Value.int .i64))::osl 3 1 (.slice pi x.e.gens.length ci) x.e.gens.length (x.e.gens.map (Value.int .i64))::memA mb x.s::L):=h
 refine drG (F:=[bl xb (exV mb ({ x.e with free:=x.e.free - 1 }) ⟨pg,cg,pm,cm,pq,cq,pi,ci⟩) 115]) [(true,[1]),(false,[3]),(true,[5,7,9,11,13,15,17,19,21,29,31,33,35]),(false,[37]),(true,[22,24,26,39,41]),(false,[42,45,47,48])] (by kernel_rfl) h (fun w h=>(hC (h.at_ a0) hN)) fun w h=>go h fun w h=>?_
 refine s000 (load_any _ _ _ h.to (by unfold Ct.St.size; unfold Ct.St.size at hb; omega)) fun w h=>?_
 refine ff (bu [.int .i64 ((x.s.load c).2)] h Slc.h Ss.h rfl (by kernel_rfl) rfl (by decide) (by decide)) ?_
 rintro _ w ⟨b1,rfl,h⟩
 refine gz h fun w h=>?_
 refine ff (ap h Slc.h rfl Ss.h rfl (by decide) rfl rfl (fun _=>u3) (h.ro a0) (by simp [Value.oneCell']) rfl (join_ints _ _) (by unfold maxLen; omega) (by omega)) ?_
 rintro _ w ⟨p2,c3,rfl,h⟩
 refine gz h fun w h=>?_
 obtain ⟨b4,rfl⟩:=h.fp a3 (by omega)
 refine drH [1,3,5,7,9,11,13,15,17,19,21,22] (by kernel_rfl) h (.c r2 (.c r2 .n)) fun w h=>go h fun w h=>?_
 refine tk (fun W H=>bs ((x.e.a : Nat) : Int))<|go h fun w h=>?_
 exact rz ⟨_,_,loadR_n hs ha hf hxa,rfl,SH.xi ⟨some ⟨b4,0,none⟩,c3,pm,cm,pq,cq,pi,ci⟩ (by unfold exL exV; (try unfold Ct.newX); dsimp only; rw [List.length_append,List.length_singleton]; exact h.to)⟩
theorem casR_s_any (xb mb : Nat) (x : Ct.X) (c o' n' : Int) (h : SH B w (XA xb mb x::L)) (hx : Ct.Ok 0 x) (hs : x.e.stopped=true) :
  Calls Tryz.prog 213 #[.pointer (some ⟨xb,0,none⟩),.int .i64 c,.int .i64 o',.int .i64 n'] w fun e w'=>∃ y v,Ct.casR c o' n' x=Ct.out y v∧e=.returned (.bool v)∧SH B w' (XA xb mb y::L):=by
 have hb:=hx.big
 have hxa:=hx.a
 have hfr:=hx.free
 unfold Ct.X.size Ct.roomMax at hb
 refine bn0 Tryz.func213 Tryz.ntmps213 h fun w h=>?_
 refine j310 (known_any _ _ _ (⟨2,c,o',n'⟩) h.to hx) fun y o n q w h=>?_
 rw [known_s hs] at q
 cases q
 refine go h fun w h=>?_
 refine drH [1,3,5,7,9,11,13,15,17,19,21,23,25,27,29,31,33,35,36] (by kernel_rfl) h .n fun w h=>go h fun w h=>?_
 exact rz ⟨_,false,casR_s hs,rfl,h⟩
theorem casR_o_any (xb mb : Nat) (x : Ct.X) (c o' n' : Int) (h : SH B w (XA xb mb x::L)) (hx : Ct.Ok 0 x) (hs : x.e.stopped=false) (ha : x.e.a<x.e.got.length) :
  Calls Tryz.prog 213 #[.pointer (some ⟨xb,0,none⟩),.int .i64 c,.int .i64 o',.int .i64 n'] w fun e w'=>∃ y v,Ct.casR c o' n' x=Ct.out y v∧e=.returned (.bool v)∧SH B w' (XA xb mb y::L):=by
 have hb:=hx.big
 have hxa:=hx.a
 have hfr:=hx.free
 unfold Ct.X.size Ct.roomMax at hb
 refine bn0 Tryz.func213 Tryz.ntmps213 h fun w h=>?_
 refine j310 (known_any _ _ _ (⟨2,c,o',n'⟩) h.to hx) fun y o n q w h=>?_
 rw [known_o hs ha] at q
 cases q
 refine go h fun w h=>?_
 obtain ⟨⟨pg,cg,pm,cm,pq,cq,pi,ci⟩,h⟩:=h.xo
 have h : SH B w (bl xb (exV mb ({ x.e with a:=x.e.a+1 }) ⟨pg,cg,pm,cm,pq,cq,pi,ci⟩) 115::osl 36 1 (.slice pg x.e.got.length cg) x.e.got.length (x.e.got.map (Value.int .i64))::osl 36 1 (.slice pm x.e.made.length cm) x.e.made.length (x.e.made.map (Value.int .i64))::osl 33 1 (.slice pq x.e.cells.length cq) x.e.cells.length (x.e.cells.map (Value.int .i64))::osl 3 1 (.slice pi x.e.gens.length ci) x.e.gens.length (x.e.gens.map (Value.int .i64))::memA mb x.s::L):=h
 obtain ⟨b1,rfl⟩:=h.fp a1 (by omega)
 refine drH [1,3,5,7,9,11,13,15,17,19,21,23,25,27,29,31,33,35,36] (by kernel_rfl) h (.c r0 (.c r0 .n)) fun w h=>go h fun w h=>?_
 refine tk (fun W H=>bs ((x.e.a : Nat) : Int))<|go h fun w h=>?_
 exact rz ⟨_,_,casR_o hs ha,rfl,SH.xi ⟨some ⟨b1,0,none⟩,cg,pm,cm,pq,cq,pi,ci⟩ (h)⟩
theorem casR_f_any (xb mb : Nat) (x : Ct.X) (c o' n' : Int) (h : SH B w (XA xb mb x::L)) (hx : Ct.Ok 0 x) (hs : x.e.stopped=false) (ha : ¬ x.e.a<x.e.got.length) (hf : x.e.free=0) :
  Calls Tryz.prog 213 #[.pointer (some ⟨xb,0,none⟩),.int .i64 c,.int .i64 o',.int .i64 n'] w fun e w'=>∃ y v,Ct.casR c o' n' x=Ct.out y v∧e=.returned (.bool v)∧SH B w' (XA xb mb y::L):=by
 have hb:=hx.big
 have hxa:=hx.a
 have hfr:=hx.free
 unfold Ct.X.size Ct.roomMax at hb
 refine bn0 Tryz.func213 Tryz.ntmps213 h fun w h=>?_
 refine j310 (known_any _ _ _ (⟨2,c,o',n'⟩) h.to hx) fun y o n q w h=>?_
 rw [known_f hs ha hf] at q
 cases q
 refine go h fun w h=>?_
 refine drH [1,3,5,7,9,11,13,15,17,19,21,23,25,27,29,31,33,35,36] (by kernel_rfl) h .n fun w h=>go h fun w h=>?_
 exact rz ⟨_,false,casR_f hs ha hf,rfl,h⟩
theorem casR_n_any (xb mb : Nat) (x : Ct.X) (c o' n' : Int) (h : SH B w (XA xb mb x::L)) (hx : Ct.Ok 0 x) (hs : x.e.stopped=false) (ha : ¬ x.e.a<x.e.got.length) (hf : x.e.free≠0) :
  Calls Tryz.prog 213 #[.pointer (some ⟨xb,0,none⟩),.int .i64 c,.int .i64 o',.int .i64 n'] w fun e w'=>∃ y v,Ct.casR c o' n' x=Ct.out y v∧e=.returned (.bool v)∧SH B w' (XA xb mb y::L):=by
 have hb:=hx.big
 have hxa:=hx.a
 have hfr:=hx.free
 unfold Ct.X.size Ct.roomMax at hb
 refine bn0 Tryz.func213 Tryz.ntmps213 h fun w h=>?_
 refine j310 (known_any _ _ _ (⟨2,c,o',n'⟩) h.to hx) fun y o n q w h=>?_
 rw [known_n hs ha hf] at q
 cases q
 refine go h fun w h=>?_
 obtain ⟨⟨pg,cg,pm,cm,pq,cq,pi,ci⟩,h⟩:=h.xo
 have h : SH B w (bl xb (exV mb ({ x.e with free:=x.e.free - 1 }) ⟨pg,cg,pm,cm,pq,cq,pi,ci⟩) 115::osl 36 1 (.slice pg x.e.got.length cg) x.e.got.length (x.e.got.map (Value.int .i64))::osl 36 1 (.slice pm x.e.made.length cm) x.e.made.length (x.e.made.map (Value.int .i64))::osl 33 1 (.slice pq x.e.cells.length cq) x.e.cells.length (x.e.cells.map (Value.int .i64))::osl 3 1 (.slice pi x.e.gens.length ci) x.e.gens.length (x.e.gens.map (Value.int .i64))::memA mb x.s::L):=h
 refine go h fun w h=>?_
 refine j000 (cas_any _ _ _ _ _ h.to (by unfold Ct.St.size; unfold Ct.St.size at hb; omega)) fun w h=>?_
 refine qc h (fun hd1 w h=>?_) fun hd1 w h=>?_
 refine drG (F:=[bl xb (exV mb ({ x.e with free:=x.e.free - 1 }) ⟨pg,cg,pm,cm,pq,cq,pi,ci⟩) 115]) [(true,[1]),(false,[3]),(true,[5,7,9,11,13,19,21,23,25]),(false,[27]),(true,[14,16,29,31]),(false,[32,35,37,38])] (by kernel_rfl) h (fun w h=>(hC (h.at_ a1) hN)) fun w h=>go h fun w h=>?_
 refine ff (bu [.int .i64 1] h Slc.h Ss.h rfl (by kernel_rfl) rfl (by decide) (by decide)) ?_
 rintro _ w ⟨b2,rfl,h⟩
 refine gz h fun w h=>?_
 refine ff (ap h Slc.h rfl Ss.h rfl (by decide) rfl rfl (fun _=>u3) (h.ro a0) (by simp [Value.oneCell']) rfl (join_ints _ _) (by unfold maxLen; omega) (by omega)) ?_
 rintro _ w ⟨p3,c4,rfl,h⟩
 refine gz h fun w h=>?_
 obtain ⟨b5,rfl⟩:=h.fp a3 (by omega)
 refine drH [1,3,5,7,9,11,13,15,17,19,21,23,25,27,29,31,33,35,36] (by kernel_rfl) h (.c r2 (.c r2 .n)) fun w h=>go h fun w h=>?_
 refine tk (fun W H=>bs ((x.e.a : Nat) : Int))<|go h fun w h=>?_
 exact rz ⟨_,_,casR_t hs ha hf hxa hd1,rfl,SH.xi ⟨some ⟨b5,0,none⟩,c4,pm,cm,pq,cq,pi,ci⟩ (by unfold exL exV; (try unfold Ct.newX); dsimp only; rw [List.length_append,List.length_singleton]; exact h.to)⟩
 refine drG (F:=[bl xb (exV mb ({ x.e with free:=x.e.free - 1 }) ⟨pg,cg,pm,cm,pq,cq,pi,ci⟩) 115]) [(true,[1]),(false,[3]),(true,[5,7,9,11,13,19,21,23,25]),(false,[27]),(true,[14,16,29,31]),(false,[32,35,37,38])] (by kernel_rfl) h (fun w h=>(hC (h.at_ a1) hN)) fun w h=>go h fun w h=>?_
 refine ff (bu [.int .i64 0] h Slc.h Ss.h rfl (by kernel_rfl) rfl (by decide) (by decide)) ?_
 rintro _ w ⟨b6,rfl,h⟩
 refine gz h fun w h=>?_
 refine ff (ap h Slc.h rfl Ss.h rfl (by decide) rfl rfl (fun _=>u3) (h.ro a0) (by simp [Value.oneCell']) rfl (join_ints _ _) (by unfold maxLen; omega) (by omega)) ?_
 rintro _ w ⟨p7,c8,rfl,h⟩
 refine gz h fun w h=>?_
 obtain ⟨b9,rfl⟩:=h.fp a3 (by omega)
 refine drH [1,3,5,7,9,11,13,15,17,19,21,23,25,27,29,31,33,35,36] (by kernel_rfl) h (.c r2 (.c r2 .n)) fun w h=>go h fun w h=>?_
 refine tk (fun W H=>bs ((x.e.a : Nat) : Int))<|go h fun w h=>?_
 exact rz ⟨_,_,casR_e hs ha hf hxa hd1,rfl,SH.xi ⟨some ⟨b9,0,none⟩,c8,pm,cm,pq,cq,pi,ci⟩ (by unfold exL exV; (try unfold Ct.newX); dsimp only; rw [List.length_append,List.length_singleton]; exact h.to)⟩
theorem allocR_s_any (xb mb : Nat) (x : Ct.X) (n : Ct.Node) (q : Lq) (i : Int) (h : SH B w (nodeR n q::XA xb mb x::L)) (hx : Ct.Ok 0 x) (hs : x.e.stopped=true) (hn : n.Fit (x.s.added.length+1)) :
  Calls Tryz.prog 216 #[.pointer (some ⟨xb,0,none⟩),.agg (nodeC n q).toArray,.int .i64 i] w fun e w'=>∃ y v,Ct.allocR n i x=Ct.out y v∧e=.returned (.int .i64 v)∧SH B w' (XA xb mb y::L):=by
 have hb:=hx.big
 have hxa:=hx.a
 have hfr:=hx.free
 unfold Ct.X.size Ct.roomMax at hb
 have hxm:=hx.m
 have hxc:=hx.c
 have hxg:=hx.g
 refine bn0 Tryz.func216 Tryz.ntmps216 h fun w h=>?_
 refine jX h fun b1 w h=>?_
 refine st (ld (v:=.bool x.e.stopped) One.h rfl (h.xc a2 fun _=>rfl))<|go h fun w h=>?_
 exact rz ⟨_,0,allocR_s hs,rfl,h.drop.drop⟩
section
attribute [local semireducible] Go.E.wpL Go.E.wpS Go.E.X Go.E.XS Go.E.C Go.E.thn Go.E.blk Go.E.fin Go.E.Y Go.E.U Go.E.F Go.E.Ca Go.E.Res Go.E.bl Go.E.rb Go.E.osl Go.E.rsl Go.E.ex Go.E.ce Go.E.pu Go.E.sK Go.E.gK Go.E.bK Go.E.zK
attribute [local irreducible] Go.E.wpL Go.E.wpS
variable {B w : World} {L : List As}
theorem allocR_n_any (xb mb : Nat) (x : Ct.X) (n : Ct.Node) (q : Lq) (i : Int) (h : SH B w (nodeR n q::XA xb mb x::L)) (hx : Ct.Ok 0 x) (hs : x.e.stopped=false) (hm : x.e.m=x.e.made.length) (hn : n.Fit (x.s.added.length+1)) :
  Calls Tryz.prog 216 #[.pointer (some ⟨xb,0,none⟩),.agg (nodeC n q).toArray,.int .i64 i] w fun e w'=>∃ y v,Ct.allocR n i x=Ct.out y v∧e=.returned (.int .i64 v)∧SH B w' (XA xb mb y::L):=by
 have hb:=hx.big
 have hxa:=hx.a
 have hfr:=hx.free
 unfold Ct.X.size Ct.roomMax at hb
 have hxm:=hx.m
 have hxc:=hx.c
 have hxg:=hx.g
 refine bgn (args:=[_,_,_]) Tryz.func216 rfl Tryz.ntmps216 rfl ?_
 refine sq<|rg<|sf (bx h rfl rfl)<|?_
 rintro _ w ⟨b1,rfl,h⟩
 refine st (sg rfl)<|xe<|nx<|sq<|sq<|rg<|st (mv rfl)<|st (nc rfl rfl)<|st (fa fo_115_11 rfl)<|st (ld (v:=.bool x.e.stopped) one_4 rfl (h.xc a2 fun _=>rfl))<|xe<|nx<|cf rfl hs<|sk<|nx<|sq<|sq<|?_
 have h:=h.fr (.c r2 .n)
 obtain ⟨⟨pg,cg,pm,cm,pq,cq,pi,ci⟩,h⟩:=h.xo
 have h : SH B w (bl xb (exV mb x.e ⟨pg,cg,pm,cm,pq,cq,pi,ci⟩) 115::osl 36 1 (.slice pg x.e.got.length cg) x.e.got.length (x.e.got.map (Value.int .i64))::osl 36 1 (.slice pm x.e.made.length cm) x.e.made.length (x.e.made.map (Value.int .i64))::osl 33 1 (.slice pq x.e.cells.length cq) x.e.cells.length (x.e.cells.map (Value.int .i64))::osl 3 1 (.slice pi x.e.gens.length ci) x.e.gens.length (x.e.gens.map (Value.int .i64))::memA mb x.s::bl b1 (nodeC n q) 77::nodeR n q::L):=h
 refine drH [1,3,5,7,9,11,13,15,17,19] (by kernel_rfl) h (.c r0 .n) fun w h=>tk (fun W H=>mv rfl)<|tk (fun W H=>nc rfl rfl)<|tk (fun W H=>fa fo_115_7 rfl)<|tk (fun W H=>ld (v:=.int .i64 ((x.e.m : Nat) : Int)) one_3 rfl (H.c a0 rfl))<|tk (fun W H=>mv rfl)<|tk (fun W H=>nc rfl rfl)<|tk (fun W H=>fa fo_115_3 rfl)<|tk (fun W H=>ld (v:=.slice pm x.e.made.length cm) one_60 rfl (H.c a0 rfl))<|tk (fun W H=>ln sl_60 rfl rfl)<|tk (fun W H=>bi rfl rfl rfl)<|xz<|nx<|ct rfl (beq_iff_eq.2 (by omega))<|drG (F:=[bl xb (exV mb x.e ⟨pg,cg,pm,cm,pq,cq,pi,ci⟩) 115,bl b1 (nodeC n q) 77]) [(true,[1,3,5,7,9,11,13,15,17,19,21,22,24,26,29,31]),(false,[32])] (by kernel_rfl) h (fun w h=>(hC (h.at_ a0) (hC (h.at_ a6) hN))) fun w h=>sgT<|tk (fun W H=>mv rfl)<|tk (fun W H=>mv rfl)<|tk (fun W H=>nc rfl rfl)<|tk (fun W H=>fa fo_115_3 rfl)<|tk (fun W H=>ld (v:=.slice pm x.e.made.length cm) one_60 rfl (H.c a0 rfl))<|tk (fun W H=>mv rfl)<|tk (fun W H=>nc rfl rfl)<|tk (fun W H=>fa fo_115_0 rfl)<|tk (fun W H=>ld (v:=.pointer (some ⟨mb,0,none⟩)) one_27 rfl (H.c a0 rfl))<|tk (fun W H=>ldr rfl (rows_all (H.b a1)) row_77)<|tk (fun W H=>mv rfl)<|cs (ca en_82 rfl) ((alloc_any mb x.s n q i (h.fr (.c r7 (.c r5 .n))) (by unfold Ct.St.size; unfold Ct.St.size at hb; omega) hn.1.1 (by have:=hn.1.2.1; unfold Ct.St.size at hb; omega)).mono ?_)
 rintro _ w ⟨rfl,h⟩
 refine ⟨_,rfl,(hC (h.at_ a1) (hC (h.at_ a6) hN)),?_⟩
 refine ff (bu [.int .i64 ((x.s.alloc n i).2)] h sl_60 ss_36 rfl (by kernel_rfl) rfl (by decide) (by decide))<|?_
 rintro _ w ⟨b2,rfl,h⟩
 refine ⟨(hC (h.at_ a2) (hC (h.at_ a7) hN)),?_⟩
 refine ff (ap h sl_60 rfl ss_36 rfl (by decide) rfl rfl (fun _=>u4) (h.ro a0) (by simp [Value.oneCell']) rfl (join_ints _ _) (by unfold maxLen; omega) (by omega))<|?_
 rintro _ w ⟨p3,c4,rfl,h⟩
 refine ⟨(hC (h.at_ a2) (hC (h.at_ a7) hN)),?_⟩
 refine tk (fun W H=>nc rfl rfl)<|tk (fun W H=>fa fo_115_3 rfl)<|xgF<|ff (so h rfl rfl rfl sz_60 rfl (.s (.s (.s (.s (.s (.s (.s (.s (.s (.s (.s (.s (.s (.s (.s (.s (.s (.s (.s (.s (.s (.s (.s (.s (.s (.s (.s (.r .d)))))))))))))))))))))))))))) u2)<|?_
 rintro _ w h
 refine ⟨trivial,?_⟩
 refine xz<|nx<|sq<|rg<|st (mv rfl)<|st (nc rfl rfl)<|st (fa fo_115_7 rfl)<|st (ld one_3 rfl (h.c a2 rfl))<|st (bw rfl rfl (wadd (c:=((x.e.m+1 : Nat) : Int)) (by omega) (by omega) (by omega)))<|st (nc rfl rfl)<|st (fa fo_115_7 rfl)<|sf (so h rfl rfl rfl sz_3 rfl (.s (.s (.s (.s (.s (.s (.s (.s (.s (.s (.s (.s (.s (.s (.s (.s (.s (.s (.s (.s (.s (.s (.s (.s (.s (.s (.s (.s (.s (.s (.s (.r .d)))))))))))))))))))))))))))))))) u2)<|?_
 rintro _ w h
 refine xe<|nx<|sq<|?_
 obtain ⟨b5,rfl⟩:=h.fp a4 (by omega)
 refine drH [1,3,5,7,9,11,13,15,17,19,21,22] (by kernel_rfl) h (.c r2 (.c r3 .n)) fun w h=>tk (fun W H=>mv rfl)<|tk (fun W H=>nc rfl rfl)<|tk (fun W H=>fa fo_115_3 rfl)<|tk (fun W H=>ld one_60 rfl (H.c a0 rfl))<|tk (fun W H=>mv rfl)<|tk (fun W H=>nc rfl rfl)<|tk (fun W H=>fa fo_115_7 rfl)<|tk (fun W H=>ld one_3 rfl (H.c a0 rfl))<|tk (fun W H=>bw rfl rfl (wsub (c:=((x.e.m : Nat) : Int)) (by omega) (by omega) (by omega)))<|tk (fun W H=>ix (j:=x.e.m) sl_60 sz_36 rfl rfl (by omega))<|tk (fun W H=>ld one_36 rfl ((H.ro a1).i (by omega)))<|ef (sg rfl) (h.hs (.c r2 (.c r3 .n)))<|xz<|nx<|rt<|?_
 refine rr (res1 Tryz.results216 rfl)<|⟨_,_,allocR_n hs hm,rfl,SH.xi ⟨pg,cg,some ⟨b5,0,none⟩,c4,pq,cq,pi,ci⟩ (by unfold exL exV; dsimp only; rw [List.length_append,List.length_singleton]; exact ((h.fr (.c r0 (.c r6 .n))).drop.drop.fr (.c r1 (.c r1 (.c r1 (.c r1 (.c r1 .n)))))))⟩
end
variable {B w : World} {L : List As}
theorem allocR_o_any (xb mb : Nat) (x : Ct.X) (n : Ct.Node) (q : Lq) (i : Int) (h : SH B w (nodeR n q::XA xb mb x::L)) (hx : Ct.Ok 0 x) (hs : x.e.stopped=false) (hm : x.e.m<x.e.made.length) (hn : n.Fit (x.s.added.length+1)) :
  Calls Tryz.prog 216 #[.pointer (some ⟨xb,0,none⟩),.agg (nodeC n q).toArray,.int .i64 i] w fun e w'=>∃ y v,Ct.allocR n i x=Ct.out y v∧e=.returned (.int .i64 v)∧SH B w' (XA xb mb y::L):=by
 have hb:=hx.big
 have hxa:=hx.a
 have hfr:=hx.free
 unfold Ct.X.size Ct.roomMax at hb
 have hxm:=hx.m
 have hxc:=hx.c
 have hxg:=hx.g
 refine bn0 Tryz.func216 Tryz.ntmps216 h fun w h=>?_
 refine jX h fun b1 w h=>?_
 refine st (ld (v:=.bool x.e.stopped) One.h rfl (h.xc a2 fun _=>rfl))<|go h fun w h=>?_
 have h:=h.fr (.c r2 .n)
 obtain ⟨⟨pg,cg,pm,cm,pq,cq,pi,ci⟩,h⟩:=h.xo
 have h : SH B w (bl xb (exV mb x.e ⟨pg,cg,pm,cm,pq,cq,pi,ci⟩) 115::osl 36 1 (.slice pg x.e.got.length cg) x.e.got.length (x.e.got.map (Value.int .i64))::osl 36 1 (.slice pm x.e.made.length cm) x.e.made.length (x.e.made.map (Value.int .i64))::osl 33 1 (.slice pq x.e.cells.length cq) x.e.cells.length (x.e.cells.map (Value.int .i64))::osl 3 1 (.slice pi x.e.gens.length ci) x.e.gens.length (x.e.gens.map (Value.int .i64))::memA mb x.s::bl b1 (nodeC n q) 77::nodeR n q::L):=h
 refine drH [1,3,5,7,9,11,13,15,17,19] (by kernel_rfl) h (.c r0 .n) fun w h=>go h fun w h=>?_
 refine go h fun w h=>?_
 obtain ⟨b2,rfl⟩:=h.fp a2 (by omega)
 refine drH [1,3,5,7,9,11,13,15,17,19,21,22] (by kernel_rfl) h (.c r0 (.c r1 .n)) fun w h=>go h fun w h=>?_
 refine tk (fun W H=>bs ((x.e.m : Nat) : Int))<|go h fun w h=>?_
 exact rz ⟨_,_,allocR_o hs hm,rfl,SH.xi ⟨pg,cg,some ⟨b2,0,none⟩,cm,pq,cq,pi,ci⟩ (h.to)⟩
theorem cellR_s_any (xb mb : Nat) (x : Ct.X) (i : Int) (h : SH B w (XA xb mb x::L)) (hx : Ct.Ok 0 x) (hs : x.e.stopped=true) :
  Calls Tryz.prog 228 #[.pointer (some ⟨xb,0,none⟩),.int .i64 i] w fun e w'=>∃ y v,Ct.cellR i x=Ct.out y v∧e=.returned (.int .i64 v)∧SH B w' (XA xb mb y::L):=by
 have hb:=hx.big
 have hxa:=hx.a
 have hfr:=hx.free
 unfold Ct.X.size Ct.roomMax at hb
 have hxm:=hx.m
 have hxc:=hx.c
 have hxg:=hx.g
 refine bn0 Tryz.func228 Tryz.ntmps228 h fun w h=>?_
 refine st (ld (v:=.bool x.e.stopped) One.h rfl (h.xc a0 fun _=>rfl))<|go h fun w h=>?_
 exact rz ⟨_,0,cellR_s hs,rfl,h⟩
section
attribute [local semireducible] Go.E.wpL Go.E.wpS Go.E.X Go.E.XS Go.E.C Go.E.thn Go.E.blk Go.E.fin Go.E.Y Go.E.U Go.E.F Go.E.Ca Go.E.Res Go.E.bl Go.E.rb Go.E.osl Go.E.rsl Go.E.ex Go.E.ce Go.E.pu Go.E.sK Go.E.gK Go.E.bK Go.E.zK
attribute [local irreducible] Go.E.wpL Go.E.wpS
variable {B w : World} {L : List As}
theorem cellR_n_any (xb mb : Nat) (x : Ct.X) (i : Int) (h : SH B w (XA xb mb x::L)) (hx : Ct.Ok 0 x) (hs : x.e.stopped=false) (hm : x.e.c=x.e.cells.length) :
  Calls Tryz.prog 228 #[.pointer (some ⟨xb,0,none⟩),.int .i64 i] w fun e w'=>∃ y v,Ct.cellR i x=Ct.out y v∧e=.returned (.int .i64 v)∧SH B w' (XA xb mb y::L):=by
 have hb:=hx.big
 have hxa:=hx.a
 have hfr:=hx.free
 unfold Ct.X.size Ct.roomMax at hb
 have hxm:=hx.m
 have hxc:=hx.c
 have hxg:=hx.g
 refine bgn (args:=[_,_]) Tryz.func228 rfl Tryz.ntmps228 rfl ?_
 refine sq<|rg<|st (sg rfl)<|xe<|nx<|sq<|sq<|rg<|st (mv rfl)<|st (nc rfl rfl)<|st (fa fo_115_11 rfl)<|st (ld (v:=.bool x.e.stopped) one_4 rfl (h.xc a0 fun _=>rfl))<|xe<|nx<|cf rfl hs<|sk<|nx<|sq<|sq<|?_
 obtain ⟨⟨pg,cg,pm,cm,pq,cq,pi,ci⟩,h⟩:=h.xo
 have h : SH B w (bl xb (exV mb x.e ⟨pg,cg,pm,cm,pq,cq,pi,ci⟩) 115::osl 36 1 (.slice pg x.e.got.length cg) x.e.got.length (x.e.got.map (Value.int .i64))::osl 36 1 (.slice pm x.e.made.length cm) x.e.made.length (x.e.made.map (Value.int .i64))::osl 33 1 (.slice pq x.e.cells.length cq) x.e.cells.length (x.e.cells.map (Value.int .i64))::osl 3 1 (.slice pi x.e.gens.length ci) x.e.gens.length (x.e.gens.map (Value.int .i64))::memA mb x.s::L):=h
 refine drH [1,3,5,7,9,11,13,15,17,19] (by kernel_rfl) h (.c r0 .n) fun w h=>tk (fun W H=>mv rfl)<|tk (fun W H=>nc rfl rfl)<|tk (fun W H=>fa fo_115_8 rfl)<|tk (fun W H=>ld (v:=.int .i64 ((x.e.c : Nat) : Int)) one_3 rfl (H.c a0 rfl))<|tk (fun W H=>mv rfl)<|tk (fun W H=>nc rfl rfl)<|tk (fun W H=>fa fo_115_4 rfl)<|tk (fun W H=>ld (v:=.slice pq x.e.cells.length cq) one_113 rfl (H.c a0 rfl))<|tk (fun W H=>ln sl_113 rfl rfl)<|tk (fun W H=>bi rfl rfl rfl)<|xz<|nx<|ct rfl (beq_iff_eq.2 (by omega))<|drG (F:=[bl xb (exV mb x.e ⟨pg,cg,pm,cm,pq,cq,pi,ci⟩) 115]) [(true,[1,3,5,7,9,11,13,15,17,19,20,22,24,27,29]),(false,[30])] (by kernel_rfl) h (fun w h=>(hC (h.at_ a0) hN)) fun w h=>sgT<|tk (fun W H=>mv rfl)<|tk (fun W H=>mv rfl)<|tk (fun W H=>nc rfl rfl)<|tk (fun W H=>fa fo_115_4 rfl)<|tk (fun W H=>ld (v:=.slice pq x.e.cells.length cq) one_113 rfl (H.c a0 rfl))<|tk (fun W H=>mv rfl)<|tk (fun W H=>nc rfl rfl)<|tk (fun W H=>fa fo_115_0 rfl)<|tk (fun W H=>ld (v:=.pointer (some ⟨mb,0,none⟩)) one_27 rfl (H.c a0 rfl))<|tk (fun W H=>mv rfl)<|cs (ca en_84 rfl) ((newCell_any mb x.s i (h.fr (.c r5 .n)) (by unfold Ct.St.size; unfold Ct.St.size at hb; omega)).mono ?_)
 rintro _ w ⟨rfl,h⟩
 refine ⟨_,rfl,(hC (h.at_ a1) hN),?_⟩
 refine ff (bu [.int .i64 ((x.s.newCell i).2)] h sl_113 ss_33 rfl (by kernel_rfl) rfl (by decide) (by decide))<|?_
 rintro _ w ⟨b1,rfl,h⟩
 refine ⟨(hC (h.at_ a2) hN),?_⟩
 refine ff (ap h sl_113 rfl ss_33 rfl (by decide) rfl rfl (fun _=>u5) (h.ro a0) (by simp [Value.oneCell']) rfl (join_ints _ _) (by unfold maxLen; omega) (by omega))<|?_
 rintro _ w ⟨p2,c3,rfl,h⟩
 refine ⟨(hC (h.at_ a2) hN),?_⟩
 refine tk (fun W H=>nc rfl rfl)<|tk (fun W H=>fa fo_115_4 rfl)<|xgF<|ff (so h rfl rfl rfl sz_113 rfl (.s (.s (.s (.s (.s (.s (.s (.s (.s (.s (.s (.s (.s (.s (.s (.s (.s (.s (.s (.s (.s (.s (.s (.s (.s (.s (.s (.s (.r .d))))))))))))))))))))))))))))) u2)<|?_
 rintro _ w h
 refine ⟨trivial,?_⟩
 refine xz<|nx<|sq<|rg<|st (mv rfl)<|st (nc rfl rfl)<|st (fa fo_115_8 rfl)<|st (ld one_3 rfl (h.c a2 rfl))<|st (bw rfl rfl (wadd (c:=((x.e.c+1 : Nat) : Int)) (by omega) (by omega) (by omega)))<|st (nc rfl rfl)<|st (fa fo_115_8 rfl)<|sf (so h rfl rfl rfl sz_3 rfl (.s (.s (.s (.s (.s (.s (.s (.s (.s (.s (.s (.s (.s (.s (.s (.s (.s (.s (.s (.s (.s (.s (.s (.s (.s (.s (.s (.s (.s (.s (.s (.s (.r .d))))))))))))))))))))))))))))))))) u2)<|?_
 rintro _ w h
 refine xe<|nx<|sq<|?_
 obtain ⟨b4,rfl⟩:=h.fp a5 (by omega)
 refine drH [1,3,5,7,9,11,13,15,17,19,21,22] (by kernel_rfl) h (.c r2 (.c r4 .n)) fun w h=>tk (fun W H=>mv rfl)<|tk (fun W H=>nc rfl rfl)<|tk (fun W H=>fa fo_115_4 rfl)<|tk (fun W H=>ld one_113 rfl (H.c a0 rfl))<|tk (fun W H=>mv rfl)<|tk (fun W H=>nc rfl rfl)<|tk (fun W H=>fa fo_115_8 rfl)<|tk (fun W H=>ld one_3 rfl (H.c a0 rfl))<|tk (fun W H=>bw rfl rfl (wsub (c:=((x.e.c : Nat) : Int)) (by omega) (by omega) (by omega)))<|tk (fun W H=>ix (j:=x.e.c) sl_113 sz_33 rfl rfl (by omega))<|tk (fun W H=>ld one_33 rfl ((H.ro a1).i (by omega)))<|ef (sg rfl) (h.hs (.c r2 (.c r4 .n)))<|xz<|nx<|rt<|?_
 refine rr (res1 Tryz.results228 rfl)<|⟨_,_,cellR_n hs hm,rfl,SH.xi ⟨pg,cg,pm,cm,some ⟨b4,0,none⟩,c3,pi,ci⟩ (by unfold exL exV; dsimp only; rw [List.length_append,List.length_singleton]; exact (h.drop.fr (.c r1 (.c r1 (.c r1 (.c r1 (.c r1 .n)))))))⟩
end
section
attribute [local semireducible] Go.E.wpL Go.E.wpS Go.E.X Go.E.XS Go.E.C Go.E.thn Go.E.blk Go.E.fin Go.E.Y Go.E.U Go.E.F Go.E.Ca Go.E.Res Go.E.bl Go.E.rb Go.E.osl Go.E.rsl Go.E.ex Go.E.ce Go.E.pu Go.E.sK Go.E.gK Go.E.bK Go.E.zK
attribute [local irreducible] Go.E.wpL Go.E.wpS
variable {B w : World} {L : List As}
theorem cellR_o_any (xb mb : Nat) (x : Ct.X) (i : Int) (h : SH B w (XA xb mb x::L)) (hx : Ct.Ok 0 x) (hs : x.e.stopped=false) (hm : x.e.c<x.e.cells.length) :
  Calls Tryz.prog 228 #[.pointer (some ⟨xb,0,none⟩),.int .i64 i] w fun e w'=>∃ y v,Ct.cellR i x=Ct.out y v∧e=.returned (.int .i64 v)∧SH B w' (XA xb mb y::L):=by
 have hb:=hx.big
 have hxa:=hx.a
 have hfr:=hx.free
 unfold Ct.X.size Ct.roomMax at hb
 have hxm:=hx.m
 have hxc:=hx.c
 have hxg:=hx.g
 refine bgn (args:=[_,_]) Tryz.func228 rfl Tryz.ntmps228 rfl ?_
 refine sq<|rg<|st (sg rfl)<|xe<|nx<|sq<|sq<|rg<|st (mv rfl)<|st (nc rfl rfl)<|st (fa fo_115_11 rfl)<|st (ld (v:=.bool x.e.stopped) one_4 rfl (h.xc a0 fun _=>rfl))<|xe<|nx<|cf rfl hs<|sk<|nx<|sq<|sq<|?_
 obtain ⟨⟨pg,cg,pm,cm,pq,cq,pi,ci⟩,h⟩:=h.xo
 have h : SH B w (bl xb (exV mb x.e ⟨pg,cg,pm,cm,pq,cq,pi,ci⟩) 115::osl 36 1 (.slice pg x.e.got.length cg) x.e.got.length (x.e.got.map (Value.int .i64))::osl 36 1 (.slice pm x.e.made.length cm) x.e.made.length (x.e.made.map (Value.int .i64))::osl 33 1 (.slice pq x.e.cells.length cq) x.e.cells.length (x.e.cells.map (Value.int .i64))::osl 3 1 (.slice pi x.e.gens.length ci) x.e.gens.length (x.e.gens.map (Value.int .i64))::memA mb x.s::L):=h
 refine drH [1,3,5,7,9,11,13,15,17,19] (by kernel_rfl) h (.c r0 .n) fun w h=>tk (fun W H=>mv rfl)<|tk (fun W H=>nc rfl rfl)<|tk (fun W H=>fa fo_115_8 rfl)<|tk (fun W H=>ld (v:=.int .i64 ((x.e.c : Nat) : Int)) one_3 rfl (H.c a0 rfl))<|tk (fun W H=>mv rfl)<|tk (fun W H=>nc rfl rfl)<|tk (fun W H=>fa fo_115_4 rfl)<|tk (fun W H=>ld (v:=.slice pq x.e.cells.length cq) one_113 rfl (H.c a0 rfl))<|tk (fun W H=>ln sl_113 rfl rfl)<|tk (fun W H=>bi rfl rfl rfl)<|xz<|nx<|cf rfl (beq_eq_false_iff_ne.2 (by omega))<|sk<|nx<|sq<|rg<|st (mv rfl)<|st (nc rfl rfl)<|st (fa fo_115_8 rfl)<|st (ld (v:=.int .i64 ((x.e.c : Nat) : Int)) one_3 rfl (h.c a0 rfl))<|st (bw rfl rfl (wadd (c:=((x.e.c+1 : Nat) : Int)) (by omega) (by omega) (by omega)))<|st (nc rfl rfl)<|st (fa fo_115_8 rfl)<|sf (so h rfl rfl rfl sz_3 rfl (.s (.s (.s (.s (.s (.s (.s (.s (.s (.s (.s (.s (.s (.s (.s (.s (.s (.s (.s (.s (.s (.s (.s (.s (.s (.s (.s (.s (.s (.s (.s (.s (.r .d))))))))))))))))))))))))))))))))) u0)<|?_
 rintro _ w h
 refine xe<|nx<|sq<|?_
 obtain ⟨b1,rfl⟩:=h.fp a3 (by omega)
 refine drH [1,3,5,7,9,11,13,15,17,19,21,22] (by kernel_rfl) h (.c r0 (.c r2 .n)) fun w h=>tk (fun W H=>mv rfl)<|tk (fun W H=>nc rfl rfl)<|tk (fun W H=>fa fo_115_4 rfl)<|tk (fun W H=>ld one_113 rfl (H.c a0 rfl))<|tk (fun W H=>mv rfl)<|tk (fun W H=>nc rfl rfl)<|tk (fun W H=>fa fo_115_8 rfl)<|tk (fun W H=>ld one_3 rfl (H.c a0 rfl))<|tk (fun W H=>bw rfl rfl (wsub (c:=((x.e.c : Nat) : Int)) (by omega) (by omega) (by omega)))<|tk (fun W H=>ix (j:=x.e.c) sl_113 sz_33 rfl rfl (by omega))<|tk (fun W H=>ld one_33 rfl ((H.ro a1).i (by omega)))<|ef (sg rfl) (h.hs (.c r0 (.c r2 .n)))<|xz<|nx<|rt<|?_
 refine rr (res1 Tryz.results228 rfl)<|⟨_,_,cellR_o hs hm,rfl,SH.xi ⟨pg,cg,pm,cm,some ⟨b1,0,none⟩,cq,pi,ci⟩ (h)⟩
end
variable {B w : World} {L : List As}
theorem genR_s_any (xb mb : Nat) (x : Ct.X) (h : SH B w (XA xb mb x::L)) (hx : Ct.Ok 0 x) (hs : x.e.stopped=true) :
  Calls Tryz.prog 230 #[.pointer (some ⟨xb,0,none⟩)] w fun e w'=>∃ y v,Ct.genR x=Ct.out y v∧e=.returned (.int .i64 v)∧SH B w' (XA xb mb y::L):=by
 have hb:=hx.big
 have hxa:=hx.a
 have hfr:=hx.free
 unfold Ct.X.size Ct.roomMax at hb
 have hxm:=hx.m
 have hxc:=hx.c
 have hxg:=hx.g
 refine bn0 Tryz.func230 Tryz.ntmps230 h fun w h=>?_
 refine st (ld (v:=.bool x.e.stopped) One.h rfl (h.xc a0 fun _=>rfl))<|go h fun w h=>?_
 exact rz ⟨_,0,genR_s hs,rfl,h⟩
section
attribute [local semireducible] Go.E.wpL Go.E.wpS Go.E.X Go.E.XS Go.E.C Go.E.thn Go.E.blk Go.E.fin Go.E.Y Go.E.U Go.E.F Go.E.Ca Go.E.Res Go.E.bl Go.E.rb Go.E.osl Go.E.rsl Go.E.ex Go.E.ce Go.E.pu Go.E.sK Go.E.gK Go.E.bK Go.E.zK
attribute [local irreducible] Go.E.wpL Go.E.wpS
variable {B w : World} {L : List As}
theorem genR_n_any (xb mb : Nat) (x : Ct.X) (h : SH B w (XA xb mb x::L)) (hx : Ct.Ok 0 x) (hs : x.e.stopped=false) (hm : x.e.g=x.e.gens.length) :
  Calls Tryz.prog 230 #[.pointer (some ⟨xb,0,none⟩)] w fun e w'=>∃ y v,Ct.genR x=Ct.out y v∧e=.returned (.int .i64 v)∧SH B w' (XA xb mb y::L):=by
 have hb:=hx.big
 have hxa:=hx.a
 have hfr:=hx.free
 unfold Ct.X.size Ct.roomMax at hb
 have hxm:=hx.m
 have hxc:=hx.c
 have hxg:=hx.g
 refine bgn (args:=[_]) Tryz.func230 rfl Tryz.ntmps230 rfl ?_
 refine sq<|rg<|st (sg rfl)<|xe<|nx<|sq<|sq<|rg<|st (mv rfl)<|st (nc rfl rfl)<|st (fa fo_115_11 rfl)<|st (ld (v:=.bool x.e.stopped) one_4 rfl (h.xc a0 fun _=>rfl))<|xe<|nx<|cf rfl hs<|sk<|nx<|sq<|sq<|?_
 obtain ⟨⟨pg,cg,pm,cm,pq,cq,pi,ci⟩,h⟩:=h.xo
 have h : SH B w (bl xb (exV mb x.e ⟨pg,cg,pm,cm,pq,cq,pi,ci⟩) 115::osl 36 1 (.slice pg x.e.got.length cg) x.e.got.length (x.e.got.map (Value.int .i64))::osl 36 1 (.slice pm x.e.made.length cm) x.e.made.length (x.e.made.map (Value.int .i64))::osl 33 1 (.slice pq x.e.cells.length cq) x.e.cells.length (x.e.cells.map (Value.int .i64))::osl 3 1 (.slice pi x.e.gens.length ci) x.e.gens.length (x.e.gens.map (Value.int .i64))::memA mb x.s::L):=h
 refine drH [1,3,5,7,9,11,13,15,17,19] (by kernel_rfl) h (.c r0 .n) fun w h=>tk (fun W H=>mv rfl)<|tk (fun W H=>nc rfl rfl)<|tk (fun W H=>fa fo_115_9 rfl)<|tk (fun W H=>ld (v:=.int .i64 ((x.e.g : Nat) : Int)) one_3 rfl (H.c a0 rfl))<|tk (fun W H=>mv rfl)<|tk (fun W H=>nc rfl rfl)<|tk (fun W H=>fa fo_115_5 rfl)<|tk (fun W H=>ld (v:=.slice pi x.e.gens.length ci) one_22 rfl (H.c a0 rfl))<|tk (fun W H=>ln sl_22 rfl rfl)<|tk (fun W H=>bi rfl rfl rfl)<|xz<|nx<|ct rfl (beq_iff_eq.2 (by omega))<|drG (F:=[bl xb (exV mb x.e ⟨pg,cg,pm,cm,pq,cq,pi,ci⟩) 115]) [(true,[1,3,5,7,9,11,13,15,17,18,20,22,25,27]),(false,[28])] (by kernel_rfl) h (fun w h=>(hC (h.at_ a0) hN)) fun w h=>sgT<|tk (fun W H=>mv rfl)<|tk (fun W H=>mv rfl)<|tk (fun W H=>nc rfl rfl)<|tk (fun W H=>fa fo_115_5 rfl)<|tk (fun W H=>ld (v:=.slice pi x.e.gens.length ci) one_22 rfl (H.c a0 rfl))<|tk (fun W H=>mv rfl)<|tk (fun W H=>nc rfl rfl)<|tk (fun W H=>fa fo_115_0 rfl)<|tk (fun W H=>ld (v:=.pointer (some ⟨mb,0,none⟩)) one_27 rfl (H.c a0 rfl))<|cs (ca en_83 rfl) ((newGen_any mb x.s (h.fr (.c r5 .n)) (by unfold Ct.St.size; unfold Ct.St.size at hb; omega)).mono ?_)
 rintro _ w ⟨rfl,h⟩
 refine ⟨_,rfl,(hC (h.at_ a1) hN),?_⟩
 refine ff (bu [.int .i64 x.s.newGen.2] h sl_22 ss_3 rfl (by kernel_rfl) rfl (by decide) (by decide))<|?_
 rintro _ w ⟨b1,rfl,h⟩
 refine ⟨(hC (h.at_ a2) hN),?_⟩
 refine ff (ap h sl_22 rfl ss_3 rfl (by decide) rfl rfl (fun _=>u6) (h.ro a0) (by simp [Value.oneCell']) rfl (join_ints _ _) (by unfold maxLen; omega) (by omega))<|?_
 rintro _ w ⟨p2,c3,rfl,h⟩
 refine ⟨(hC (h.at_ a2) hN),?_⟩
 refine tk (fun W H=>nc rfl rfl)<|tk (fun W H=>fa fo_115_5 rfl)<|xgF<|ff (so h rfl rfl rfl sz_22 rfl (.s (.s (.s (.s (.s (.s (.s (.s (.s (.s (.s (.s (.s (.s (.s (.s (.s (.s (.s (.s (.s (.s (.s (.s (.s (.s (.s (.s (.s (.r .d)))))))))))))))))))))))))))))) u2)<|?_
 rintro _ w h
 refine ⟨trivial,?_⟩
 refine xz<|nx<|sq<|rg<|st (mv rfl)<|st (nc rfl rfl)<|st (fa fo_115_9 rfl)<|st (ld one_3 rfl (h.c a2 rfl))<|st (bw rfl rfl (wadd (c:=((x.e.g+1 : Nat) : Int)) (by omega) (by omega) (by omega)))<|st (nc rfl rfl)<|st (fa fo_115_9 rfl)<|sf (so h rfl rfl rfl sz_3 rfl (.s (.s (.s (.s (.s (.s (.s (.s (.s (.s (.s (.s (.s (.s (.s (.s (.s (.s (.s (.s (.s (.s (.s (.s (.s (.s (.s (.s (.s (.s (.s (.s (.s (.r .d)))))))))))))))))))))))))))))))))) u2)<|?_
 rintro _ w h
 refine xe<|nx<|sq<|?_
 obtain ⟨b4,rfl⟩:=h.fp a6 (by omega)
 refine drH [1,3,5,7,9,11,13,15,17,19,21,22] (by kernel_rfl) h (.c r2 (.c r5 .n)) fun w h=>tk (fun W H=>mv rfl)<|tk (fun W H=>nc rfl rfl)<|tk (fun W H=>fa fo_115_5 rfl)<|tk (fun W H=>ld one_22 rfl (H.c a0 rfl))<|tk (fun W H=>mv rfl)<|tk (fun W H=>nc rfl rfl)<|tk (fun W H=>fa fo_115_9 rfl)<|tk (fun W H=>ld one_3 rfl (H.c a0 rfl))<|tk (fun W H=>bw rfl rfl (wsub (c:=((x.e.g : Nat) : Int)) (by omega) (by omega) (by omega)))<|tk (fun W H=>ix (j:=x.e.g) sl_22 sz_3 rfl rfl (by omega))<|tk (fun W H=>ld one_3 rfl ((H.ro a1).i (by omega)))<|ef (sg rfl) (h.hs (.c r2 (.c r5 .n)))<|xz<|nx<|rt<|?_
 refine rr (res1 Tryz.results230 rfl)<|⟨_,_,genR_n hs hm,rfl,SH.xi ⟨pg,cg,pm,cm,pq,cq,some ⟨b4,0,none⟩,c3⟩ (by unfold exL exV; dsimp only; rw [List.length_append,List.length_singleton]; exact (h.drop.fr (.c r1 (.c r1 (.c r1 (.c r1 (.c r1 .n)))))))⟩
end
section
attribute [local semireducible] Go.E.wpL Go.E.wpS Go.E.X Go.E.XS Go.E.C Go.E.thn Go.E.blk Go.E.fin Go.E.Y Go.E.U Go.E.F Go.E.Ca Go.E.Res Go.E.bl Go.E.rb Go.E.osl Go.E.rsl Go.E.ex Go.E.ce Go.E.pu Go.E.sK Go.E.gK Go.E.bK Go.E.zK
attribute [local irreducible] Go.E.wpL Go.E.wpS
variable {B w : World} {L : List As}
theorem genR_o_any (xb mb : Nat) (x : Ct.X) (h : SH B w (XA xb mb x::L)) (hx : Ct.Ok 0 x) (hs : x.e.stopped=false) (hm : x.e.g<x.e.gens.length) :
  Calls Tryz.prog 230 #[.pointer (some ⟨xb,0,none⟩)] w fun e w'=>∃ y v,Ct.genR x=Ct.out y v∧e=.returned (.int .i64 v)∧SH B w' (XA xb mb y::L):=by
 have hb:=hx.big
 have hxa:=hx.a
 have hfr:=hx.free
 unfold Ct.X.size Ct.roomMax at hb
 have hxm:=hx.m
 have hxc:=hx.c
 have hxg:=hx.g
 refine bgn (args:=[_]) Tryz.func230 rfl Tryz.ntmps230 rfl ?_
 refine sq<|rg<|st (sg rfl)<|xe<|nx<|sq<|sq<|rg<|st (mv rfl)<|st (nc rfl rfl)<|st (fa fo_115_11 rfl)<|st (ld (v:=.bool x.e.stopped) one_4 rfl (h.xc a0 fun _=>rfl))<|xe<|nx<|cf rfl hs<|sk<|nx<|sq<|sq<|?_
 obtain ⟨⟨pg,cg,pm,cm,pq,cq,pi,ci⟩,h⟩:=h.xo
 have h : SH B w (bl xb (exV mb x.e ⟨pg,cg,pm,cm,pq,cq,pi,ci⟩) 115::osl 36 1 (.slice pg x.e.got.length cg) x.e.got.length (x.e.got.map (Value.int .i64))::osl 36 1 (.slice pm x.e.made.length cm) x.e.made.length (x.e.made.map (Value.int .i64))::osl 33 1 (.slice pq x.e.cells.length cq) x.e.cells.length (x.e.cells.map (Value.int .i64))::osl 3 1 (.slice pi x.e.gens.length ci) x.e.gens.length (x.e.gens.map (Value.int .i64))::memA mb x.s::L):=h
 refine drH [1,3,5,7,9,11,13,15,17,19] (by kernel_rfl) h (.c r0 .n) fun w h=>tk (fun W H=>mv rfl)<|tk (fun W H=>nc rfl rfl)<|tk (fun W H=>fa fo_115_9 rfl)<|tk (fun W H=>ld (v:=.int .i64 ((x.e.g : Nat) : Int)) one_3 rfl (H.c a0 rfl))<|tk (fun W H=>mv rfl)<|tk (fun W H=>nc rfl rfl)<|tk (fun W H=>fa fo_115_5 rfl)<|tk (fun W H=>ld (v:=.slice pi x.e.gens.length ci) one_22 rfl (H.c a0 rfl))<|tk (fun W H=>ln sl_22 rfl rfl)<|tk (fun W H=>bi rfl rfl rfl)<|xz<|nx<|cf rfl (beq_eq_false_iff_ne.2 (by omega))<|sk<|nx<|sq<|rg<|st (mv rfl)<|st (nc rfl rfl)<|st (fa fo_115_9 rfl)<|st (ld (v:=.int .i64 ((x.e.g : Nat) : Int)) one_3 rfl (h.c a0 rfl))<|st (bw rfl rfl (wadd (c:=((x.e.g+1 : Nat) : Int)) (by omega) (by omega) (by omega)))<|st (nc rfl rfl)<|st (fa fo_115_9 rfl)<|sf (so h rfl rfl rfl sz_3 rfl (.s (.s (.s (.s (.s (.s (.s (.s (.s (.s (.s (.s (.s (.s (.s (.s (.s (.s (.s (.s (.s (.s (.s (.s (.s (.s (.s (.s (.s (.s (.s (.s (.s (.r .d)))))))))))))))))))))))))))))))))) u0)<|?_
 rintro _ w h
 refine xe<|nx<|sq<|?_
 obtain ⟨b1,rfl⟩:=h.fp a4 (by omega)
 refine drH [1,3,5,7,9,11,13,15,17,19,21,22] (by kernel_rfl) h (.c r0 (.c r3 .n)) fun w h=>tk (fun W H=>mv rfl)<|tk (fun W H=>nc rfl rfl)<|tk (fun W H=>fa fo_115_5 rfl)<|tk (fun W H=>ld one_22 rfl (H.c a0 rfl))<|tk (fun W H=>mv rfl)<|tk (fun W H=>nc rfl rfl)<|tk (fun W H=>fa fo_115_9 rfl)<|tk (fun W H=>ld one_3 rfl (H.c a0 rfl))<|tk (fun W H=>bw rfl rfl (wsub (c:=((x.e.g : Nat) : Int)) (by omega) (by omega) (by omega)))<|tk (fun W H=>ix (j:=x.e.g) sl_22 sz_3 rfl rfl (by omega))<|tk (fun W H=>ld one_3 rfl ((H.ro a1).i (by omega)))<|ef (sg rfl) (h.hs (.c r0 (.c r3 .n)))<|xz<|nx<|rt<|?_
 refine rr (res1 Tryz.results230 rfl)<|⟨_,_,genR_o hs hm,rfl,SH.xi ⟨pg,cg,pm,cm,pq,cq,some ⟨b1,0,none⟩,ci⟩ (h)⟩
end
end Go.Proofs.YtmliojdkmfhmmaaGreat
end
