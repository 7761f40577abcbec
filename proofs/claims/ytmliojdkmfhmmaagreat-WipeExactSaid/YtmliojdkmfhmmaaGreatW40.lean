/- Parts of a proof: Lo, Lq, Ayj. -/
import Derived.Test.YtmliojdkmfhmmaaGreatW09
import Derived.Test.YtmliojdkmfhmmaaGreatW31
import Derived.Test.YtmliojdkmfhmmaaGreatW27
import Derived.Test.YtmliojdkmfhmmaaGreatW39
import Derived.Test.YtmliojdkmfhmmaaGreatW38
import Derived.Test.YtmliojdkmfhmmaaGreatW13
import Derived.Test.YtmliojdkmfhmmaaGreatW14
import Derived.Test.YtmliojdkmfhmmaaGreatW15
import Derived.Test.YtmliojdkmfhmmaaGreatW16
import Derived.Test.YtmliojdkmfhmmaaGreatW12
import Derived.Test.YtmliojdkmfhmmaaGreatW29
import Derived.Test.YtmliojdkmfhmmaaGreatW21
import Derived.Test.YtmliojdkmfhmmaaGreatW26
set_option linter.unusedVariables false
set_option linter.unusedSimpArgs false
set_option maxRecDepth 100000
set_option maxHeartbeats 4000000
section
namespace Go.Proofs.YtmliojdkmfhmmaaGreat
attribute [local irreducible] Go.E.wpL Go.E.wpS Go.E.X Go.E.XS Go.E.C Go.E.thn Go.E.blk Go.E.fin Go.E.Y Go.E.U Go.E.F Go.E.Ca Go.E.Res Go.E.bl Go.E.rb Go.E.osl Go.E.rsl Go.E.ex Go.E.ce Go.E.pu Go.E.sK Go.E.gK Go.E.bK Go.E.zK Go.E.boxA Go.E.cloA Go.E.codeA clA cdA klA
open Go.RowKit Go.E
variable {B w : World} {L : List As}
theorem aeq_acc (a : Ct.Acc) : aeq (accV a) (accV a)=true:=by simp [aeq,veq,accV]
theorem aeq_res (r : Ct.Result) : aeq (resW r) (resW r)=true:=by simp [aeq,veq,resW]
theorem aeq_res0 : aeq (resW {}) [.int .i64 0,.bool false,.int .u64 0,.string .empty,.int .i64 0,.int .i64 0,.int .i64 0,.bool false]=true:=aeq_res {}
theorem psD (S : Sto) (n tb k : Nat) (u : Ct.I Ct.Result) (d : Bool) (hd : u.ended.isSome=d) (h : SH B w (taskA S n tb u k::L)) :
  Calls Tryz.prog 22 #[.pointer (some ⟨tb,0,none⟩)] w fun e w'=>e=.returned (.bool d)∧SH B w' (taskA S n tb u k::L):=by subst hd; exact tDone_any' S n tb k u h
theorem psN (S : Sto) (n tb k : Nat) (u : Ct.I Ct.Result) (a : Ct.Acc) (d : Bool) (ha : u.acc=a) (hd : u.ended.isSome=d) (h : SH B w (taskA S n tb u k::L)) :
  Calls Tryz.prog 102 #[.pointer (some ⟨tb,0,none⟩)] w fun e w'=>e=.returned (.tuple #[.agg (accV a).toArray,.bool (!d)])∧SH B w' (taskA S n tb u k::L):=by subst ha hd; exact tNext_any S n tb k u h
theorem psR (S : Sto) (n tb k : Nat) (u : Ct.I Ct.Result) (r : Ct.Result) (hr : u.ended.getD {}=r) (h : SH B w (taskA S n tb u k::L)) :
  Calls Tryz.prog 28 #[.pointer (some ⟨tb,0,none⟩)] w fun e w'=>e=.returned (.agg (resW r).toArray)∧SH B w' (taskA S n tb u k::L):=by subst hr; exact tResult_any S n tb k u h
theorem pxD (xb mb : Nat) (ex : Ct.Ex) (s : Ct.St) (d : Bool) (hd : ex.done=d) (h : SH B w (XA xb mb ⟨ex,s⟩::L)) :
  Calls Tryz.prog 51 #[.pointer (some ⟨xb,0,none⟩)] w fun e w'=>e=.returned (.bool d)∧SH B w' (XA xb mb ⟨ex,s⟩::L):=by subst hd; exact done_any xb mb ⟨ex,s⟩ h
theorem pxS (xb mb : Nat) (ex : Ct.Ex) (s : Ct.St) (k : Nat) (hk : ex.got.length=k) (h : SH B w (XA xb mb ⟨ex,s⟩::L)) :
  Calls Tryz.prog 101 #[.pointer (some ⟨xb,0,none⟩)] w fun e w'=>e=.returned (.int .i64 ((k : Nat) : Int))∧SH B w' (XA xb mb ⟨ex,s⟩::L):=by subst hk; exact steps_any xb mb ⟨ex,s⟩ h
theorem pxR (xb mb : Nat) (ex : Ct.Ex) (s : Ct.St) (r : Ct.Result) (hr : ex.result=r) (h : SH B w (XA xb mb ⟨ex,s⟩::L)) :
  Calls Tryz.prog 104 #[.pointer (some ⟨xb,0,none⟩)] w fun e w'=>e=.returned (.agg (resW r).toArray)∧SH B w' (XA xb mb ⟨ex,s⟩::L):=by subst hr; exact result_any xb mb ⟨ex,s⟩ h
theorem pxNd (xb mb : Nat) (ex : Ct.Ex) (s : Ct.St) (hd : ex.done=true) (h : SH B w (XA xb mb ⟨ex,s⟩::L)) :
  Calls Tryz.prog 103 #[.pointer (some ⟨xb,0,none⟩)] w fun e w'=>e=.returned (.tuple #[.agg (accV {}).toArray,.bool false])∧SH B w' (XA xb mb ⟨ex,s⟩::L):=next_d xb mb ⟨ex,s⟩ h hd
theorem pxNn (xb mb : Nat) (ex : Ct.Ex) (s : Ct.St) (hd : ex.done=false) (a : Ct.Acc) (hn : ex.next=a) (h : SH B w (XA xb mb ⟨ex,s⟩::L)) :
  Calls Tryz.prog 103 #[.pointer (some ⟨xb,0,none⟩)] w fun e w'=>e=.returned (.tuple #[.agg (accV a).toArray,.bool true])∧SH B w' (XA xb mb ⟨ex,s⟩::L):=by subst hn; exact next_n xb mb ⟨ex,s⟩ h hd
section
attribute [local semireducible] Go.E.wpL Go.E.wpS Go.E.X Go.E.XS Go.E.C Go.E.thn Go.E.blk Go.E.fin Go.E.Y Go.E.U Go.E.F Go.E.Ca Go.E.Res Go.E.bl Go.E.rb Go.E.osl Go.E.rsl Go.E.ex Go.E.ce Go.E.pu Go.E.sK Go.E.gK Go.E.bK Go.E.zK Go.E.boxA Go.E.cloA Go.E.codeA clA cdA klA
attribute [local irreducible] Go.E.wpL Go.E.wpS
variable {B w : World} {L : List As}
theorem psame_d (S : Sto) (n tb xb mb k : Nat) (ex : Ct.Ex) (u : Ct.I Ct.Result) (s : Ct.St) (h : SH B w (taskA S n tb u k::XA xb mb ⟨ex,s⟩::L)) (hu : u.ended.isSome=true) (hd : ex.done=true) (hk : ex.got.length=k) (r : Ct.Result) (ha : u.acc={}) (hr : u.ended.getD {}=r) (hx : ex.result=r) :
  Calls Tryz.prog 52 #[.agg [.pointer (some ⟨tb,0,none⟩),.pointer (some ⟨xb,0,none⟩)].toArray] w fun e w'=>e=.returned (.bool true)∧SH B w' (taskA S n tb u k::XA xb mb ⟨ex,s⟩::L):=by
 refine bgn (args:=[_]) Tryz.func52 rfl Tryz.ntmps52 rfl ?_
 refine sq<|rg<|sf (bx h rfl rfl)<|?_
 rintro _ w ⟨b1,rfl,h⟩
 refine st (sg rfl)<|xe<|nx<|sq<|sq<|drH [1,3,5,7,9,11,15,17,12,18,21,23,25,27,29,33,35,30,36,39,41] (by kernel_rfl) h (.c r0 .n) fun w h=>tk (fun W H=>fa fo_56_0 rfl)<|tk (fun W H=>ld one_51 rfl (H.c a0 rfl))<|tk (fun W H=>bpe un_51 rfl rfl)<|tk (fun W H=>mv rfl)<|gTs rfl rfl rfl<|tk (fun W H=>fa fo_56_0 rfl)<|gTs rfl rfl rfl<|tk (fun W H=>ld one_51 rfl (H.c a0 rfl))<|gTs rfl rfl rfl<|tk (fun W H=>fa fo_56_1 rfl)<|gTs rfl rfl rfl<|tk (fun W H=>ld one_53 rfl (H.c a0 rfl))<|gTs rfl rfl rfl<|cs (ca en_22 rfl) ((psD S n tb k u true hu (h.fr (.c r1 .n))).mono ?_)
 rintro _ w ⟨rfl,h⟩
 refine ⟨_,rfl,h.hs (.c r1 .n),?_⟩
 refine gTs rfl rfl rfl<|cs (ca en_51 rfl) ((pxD xb mb ex s true hd (h.fr (.c r2 .n))).mono ?_)
 rintro _ w ⟨rfl,h⟩
 refine ⟨_,rfl,h.hs (.c r2 .n),?_⟩
 refine gTs rfl rfl rfl<|tk (fun W H=>bbn un_4 rfl rfl)<|tk (fun W H=>pF rfl rfl rfl)<|tk (fun W H=>mv rfl)<|gTs rfl rfl rfl<|tk (fun W H=>fa fo_56_0 rfl)<|gTs rfl rfl rfl<|tk (fun W H=>ld one_51 rfl (H.c a0 rfl))<|gTs rfl rfl rfl<|tk (fun W H=>fa fo_56_1 rfl)<|gTs rfl rfl rfl<|tk (fun W H=>ld one_53 rfl (H.c a0 rfl))<|gTs rfl rfl rfl<|cs (ca en_100 rfl) ((tSteps_any S n tb k u (h.fr (.c r1 .n))).mono ?_)
 rintro _ w ⟨rfl,h⟩
 refine ⟨_,rfl,h.hs (.c r2 .n),?_⟩
 refine gTs rfl rfl rfl<|cs (ca en_101 rfl) ((pxS xb mb ex s k hk (h.fr (.c r1 .n))).mono ?_)
 rintro _ w ⟨rfl,h⟩
 refine ⟨_,rfl,h.hs (.c r2 .n),?_⟩
 refine gTs rfl rfl rfl<|tk (fun W H=>bi rfl rfl rfl)<|tk (fun W H=>pF rfl rfl rfl)<|xz<|nx<|cf rfl (bneS _)<|sk<|nx<|sq<|rg<|st (fa fo_56_0 rfl)<|st (ld one_51 rfl (h.c a2 rfl))<|cl (ca en_102 rfl) ((psN S n tb k u {} true ha hu (h.fr (.c r1 .n))).mono ?_)
 rintro _ w ⟨rfl,h⟩
 refine ⟨_,rfl,?_⟩
 refine st (mv rfl)<|st (xr rfl rfl)<|st (xr rfl rfl)<|sf (al h zc_106)<|?_
 rintro _ w ⟨b2,rfl,h⟩
 refine sf (so h rfl rfl rfl sz_106 rfl (.r (.r (.r (.r .d)))) u0)<|?_
 rintro _ w h
 refine st (sg rfl)<|xe<|nx<|sq<|rg<|st (fa fo_56_1 rfl)<|st (ld one_53 rfl (h.c a3 rfl))<|cl (ca en_103 rfl) ((pxNd xb mb ex s hd (h.fr (.c r2 .n))).mono ?_)
 rintro _ w ⟨rfl,h⟩
 refine ⟨_,rfl,?_⟩
 refine st (mv rfl)<|st (xr rfl rfl)<|st (xr rfl rfl)<|sf (al h zc_106)<|?_
 rintro _ w ⟨b3,rfl,h⟩
 refine sf (so h rfl rfl rfl sz_106 rfl (.r (.r (.r (.r .d)))) u0)<|?_
 rintro _ w h
 refine st (sg rfl)<|xe<|nx<|sq<|drH [1,3,5,7,9,11,13,15,17,19,21,23,25,27,31,33,28,34,37,39,41,43,45,47,49,53,50,55,57,59,61,62] (by kernel_rfl) h (.c r2 (.c r0 (.c r2 .n))) fun w h=>tk (fun W H=>ldr rfl (rows_all (H.b a0)) row_106)<|tk (fun W H=>ldr rfl (rows_all (H.b a1)) row_106)<|tk (fun W H=>be_ eq_106 rfl rfl rfl rfl)<|tk (fun W H=>mv rfl)<|gTs rfl rfl (aeq_acc _)<|tk (fun W H=>mv rfl)<|gTs rfl rfl (aeq_acc _)<|tk (fun W H=>mv rfl)<|gTs rfl rfl (aeq_acc _)<|tk (fun W H=>bbe un_4 rfl rfl)<|tk (fun W H=>pT rfl (aeq_acc _) rfl)<|tk (fun W H=>mv rfl)<|gTs rfl rfl rfl<|tk (fun W H=>mv rfl)<|gTs rfl rfl rfl<|tk (fun W H=>nt rfl)<|gTs rfl rfl rfl<|tk (fun W H=>mv rfl)<|gTs rfl rfl rfl<|tk (fun W H=>fa fo_56_0 rfl)<|gTs rfl rfl rfl<|tk (fun W H=>ld one_51 rfl (H.c a2 rfl))<|gTs rfl rfl rfl<|tk (fun W H=>fa fo_56_1 rfl)<|gTs rfl rfl rfl<|tk (fun W H=>ld one_53 rfl (H.c a2 rfl))<|gTs rfl rfl rfl<|cs (ca en_28 rfl) ((psR S n tb k u r hr (h.fr (.c r3 .n))).mono ?_)
 rintro _ w ⟨rfl,h⟩
 refine ⟨_,rfl,h.hs (.c r3 (.c r1 (.c r2 .n))),?_⟩
 refine gTs rfl rfl rfl<|cs (ca en_104 rfl) ((pxR xb mb ex s r hx (h.fr (.c r2 .n))).mono ?_)
 rintro _ w ⟨rfl,h⟩
 refine ⟨_,rfl,h.hs (.c r3 (.c r2 (.c r2 .n))),?_⟩
 refine gTs rfl rfl rfl<|tk (fun W H=>be_ eq_43 rfl rfl rfl rfl)<|gTs rfl rfl rfl<|tk (fun W H=>pT rfl rfl rfl)<|gTs rfl rfl rfl<|tk (fun W H=>mv rfl)<|gFs rfl rfl (aeq_res _)<|gFs rfl rfl (aeq_res _)<|gUs rfl rfl<|gUs rfl rfl<|gUs rfl rfl<|gUs rfl rfl<|gUs rfl rfl<|gFs rfl rfl (aeq_res _)<|gTs rfl rfl rfl<|tk (fun W H=>pT rfl (aeq_res _) rfl)<|tk (fun W H=>pT rfl rfl rfl)<|ef (sg rfl) (h.hs (.c r3 (.c r2 (.c r2 .n))))<|xz<|nx<|rt<|?_
 refine rr (res1 Tryz.results52 rfl)<|?_
 exact ⟨rfl,((h.fr (.c r2 (.c r2 (.c r2 .n)))).drop.drop.drop.fr (.c r1 (.c r0 .n)))⟩
end
variable {B w : World} {L : List As}
theorem psame_n (S : Sto) (n tb xb mb k : Nat) (ex : Ct.Ex) (u : Ct.I Ct.Result) (s : Ct.St) (h : SH B w (taskA S n tb u k::XA xb mb ⟨ex,s⟩::L)) (hu : u.ended.isSome=false) (hd : ex.done=false) (hk : ex.got.length=k) (ha : u.acc=u.acc) (hn : ex.next=u.acc) (hr : u.ended.getD {}={}) :
  Calls Tryz.prog 52 #[.agg [.pointer (some ⟨tb,0,none⟩),.pointer (some ⟨xb,0,none⟩)].toArray] w fun e w'=>e=.returned (.bool true)∧SH B w' (taskA S n tb u k::XA xb mb ⟨ex,s⟩::L):=by
 refine bn0 Tryz.func52 Tryz.ntmps52 h fun w h=>?_
 refine jX h fun b1 w h=>?_
 refine drH [1,3,5,7,9,11,15,17,12,18,21,23,25,27,29,33,35,30,36,39,41] (by kernel_rfl) h (.c r0 .n) fun w h=>go h fun w h=>?_
 refine tk (fun W H=>bpe un_51 rfl rfl)<|go h fun w h=>?_
 refine s000 (psD S _ _ _ u _ hu h.to) fun w h=>?_
 refine s000 (pxD _ _ ex _ _ hd h.to) fun w h=>?_
 refine tk (fun W H=>bbn un_4 rfl rfl)<|go h fun w h=>?_
 refine s000 (tSteps_any S _ _ _ u h.to) fun w h=>?_
 refine s000 (pxS _ _ ex _ _ hk h.to) fun w h=>?_
 refine cf rfl (bneS _)<|go h fun w h=>?_
 refine cl (ca en_102 rfl) ((psN S n tb k u u.acc false ha hu (h.fr (.c r1 .n))).mono ?_)
 rintro _ w ⟨rfl,h⟩
 refine ⟨_,rfl,?_⟩
 refine st (mv rfl)<|st (xr rfl rfl)<|st (xr rfl rfl)<|?_
 refine go h fun w h=>?_
 refine jA h fun b2 w h=>?_
 refine cl (ca en_103 rfl) ((pxNn xb mb ex s hd u.acc hn (h.fr (.c r2 .n))).mono ?_)
 rintro _ w ⟨rfl,h⟩
 refine ⟨_,rfl,?_⟩
 refine st (mv rfl)<|st (xr rfl rfl)<|st (xr rfl rfl)<|?_
 refine go h fun w h=>?_
 refine jA h fun b3 w h=>?_
 refine drH [1,3,5,7,9,11,13,15,17,19,21,23,25,27,31,33,28,34,37,39,41,43,45,47,49,53,50,55,57,59,61,62] (by kernel_rfl) h (.c r2 (.c r0 (.c r2 .n))) fun w h=>go h fun w h=>?_
 refine tk (fun W H=>be_ eq_106 rfl rfl rfl rfl)<|go h fun w h=>?_
 refine gTs rfl rfl (aeq_acc _)<|go h fun w h=>?_
 refine gTs rfl rfl (aeq_acc _)<|go h fun w h=>?_
 refine gTs rfl rfl (aeq_acc _)<|tk (fun W H=>bbe un_4 rfl rfl)<|tk (fun W H=>pT rfl (aeq_acc _) rfl)<|go h fun w h=>?_
 refine s000 (psR S _ _ _ u {} hr h.to) fun w h=>?_
 refine tk (fun W H=>be_ eq_43 rfl rfl rfl rfl)<|go h fun w h=>?_
 refine rz ?_
 exact ⟨by rw [show (aeq (resW {}) ([.int .i64 0,.bool false,.int .u64 0,.string .empty,.int .i64 0,.int .i64 0,.int .i64 0,.bool false]))=true from aeq_res0],h.to⟩
theorem psame_any (S : Sto) (n tb xb mb k : Nat) (ex : Ct.Ex) (u : Ct.I Ct.Result) (s : Ct.St) (h : SH B w (taskA S n tb u k::XA xb mb ⟨ex,s⟩::L)) (hk : ex.got.length=k) (hs : ex.done=u.ended.isSome∧(u.ended=none→ex.next=u.acc)∧∀ r,u.ended=some r→ex.result=r) :
  Calls Tryz.prog 52 #[.agg [.pointer (some ⟨tb,0,none⟩),.pointer (some ⟨xb,0,none⟩)].toArray] w fun e w'=>e=.returned (.bool true)∧SH B w' (taskA S n tb u k::XA xb mb ⟨ex,s⟩::L):=by
 cases hu : u.ended with
 | none=>exact psame_n S n tb xb mb k ex u s h (by rw [hu]; rfl) (by rw [hs.1,hu]; rfl) hk rfl (hs.2.1 hu) (by rw [hu]; rfl)
 | some r=>exact psame_d S n tb xb mb k ex u s h (by rw [hu]; rfl) (by rw [hs.1,hu]; rfl) hk r (acc_end (by rw [hu]; rfl)) (by rw [hu]; rfl) (hs.2.2 r hu)
end Go.Proofs.YtmliojdkmfhmmaaGreat
end
section
namespace Go.Proofs.YtmliojdkmfhmmaaGreat
open Go.RowKit Go.E
variable {B w : World} {L : List As}
theorem mi_Node (a : Addr) (w : World) : (method 411 25 (.pointer (some a)) "Node").run Tryz.prog w = .ok (64, .pointer (some a)) w := by kernel_rfl
theorem mi_Alloc (a : Addr) (w : World) : (method 411 25 (.pointer (some a)) "Alloc").run Tryz.prog w = .ok (355, .pointer (some a)) w := by kernel_rfl
theorem mi_NewCell (a : Addr) (w : World) : (method 411 25 (.pointer (some a)) "NewCell").run Tryz.prog w = .ok (358, .pointer (some a)) w := by kernel_rfl
theorem mi_NewGen (a : Addr) (w : World) : (method 411 25 (.pointer (some a)) "NewGen").run Tryz.prog w = .ok (359, .pointer (some a)) w := by kernel_rfl
theorem mi_Load (a : Addr) (w : World) : (method 411 25 (.pointer (some a)) "Load").run Tryz.prog w = .ok (357, .pointer (some a)) w := by kernel_rfl
theorem mi_CAS (a : Addr) (w : World) : (method 411 25 (.pointer (some a)) "CAS").run Tryz.prog w = .ok (356, .pointer (some a)) w := by kernel_rfl
theorem mi_nil (a : Addr) (w : World) : (nilAhead 411 25 (.pointer (some a)) "Alloc").run Tryz.prog w = .ok (some false) w := by kernel_rfl
theorem arMeth (ab : Nat) (w : World) : Meth 25 (pab ab) ab w :=⟨mi_Node _ w,mi_Alloc _ w,mi_NewCell _ w,mi_NewGen _ w,mi_Load _ w,mi_CAS _ w⟩
def arSto (ab : Nat) : Sto :=⟨25,pab ab,ab,[],fun _=>arMeth ab _,fun w=>mi_nil _ w⟩
theorem toSto {ab : Nat} {s : Ct.St} (h : SH B w (arA ab s::L)) : SH B w ((arSto ab).a s::L):=SH.si (S:=arSto ab) (((SH.is (l:=[]) h).fr (.c r1 .n)))
theorem ofSto {ab : Nat} {s : Ct.St} (h : SH B w ((arSto ab).a s::L)) : SH B w (arA ab s::L):=(SH.so (S:=arSto ab) h).fr (.c r0 .n) |>.fr (.c r1 .n) |>.drop
def pxo (z : Ct.Px) : Nat × Ct.Ex:=(z.xb,z.e)
def ppo (z : Ct.Px) : Nat × Nat:=(z.tb,z.xb)
def ppC (a : Nat × Nat) : List Value:=[.pointer (some ⟨a.1,0,none⟩),.pointer (some ⟨a.2,0,none⟩)]
theorem ppC_len (a : Nat × Nat) : (ppC a).length=2:=rfl
def tko (S : Sto) (n : Nat) (z : Ct.Px) : As:=taskA S n z.tb z.u z.k
def tksA (S : Sto) (n : Nat) (ys : List Ct.Px) : As:=se (ys.map (tko S n))
theorem tkGet {S : Sto} {n j : Nat} {ys : List Ct.Px} (hj : j<ys.length) (h : SH B w (tksA S n ys::L)) : SH B w (tko S n ys[j]::tksA S n (ys.eraseIdx j)::L):=by
 have h1:=(SH.se h).fr (.c (rem_map hj) .n)
 have h2 : SH B w ((ys.eraseIdx j).map (tko S n) ++ tko S n ys[j]::L):=SH.back (A:=tko S n ys[j]) h1 rem_app
 exact (SH.is (l:=(ys.eraseIdx j).map (tko S n)) h2).fr (.c r1 .n)
theorem tkPut {S : Sto} {n j : Nat} {ys : List Ct.Px} {z : Ct.Px} (hj : j<ys.length) (h : SH B w (tko S n z::tksA S n (ys.eraseIdx j)::L)) : SH B w (tksA S n (ys.set j z)::L):=by
 have h2 : SH B w ((ys.eraseIdx j).map (tko S n) ++ tko S n z::L):=SH.se (h.fr (.c r1 .n))
 have h3 : SH B w (tko S n z::((ys.eraseIdx j).map (tko S n) ++ L)):=h2.fr (.c rem_app .n)
 exact SH.is (l:=(ys.set j z).map (tko S n)) (SH.back (A:=tko S n z) h3 (rem_mapset hj))
theorem se_map_imp {α : Type} {f g : α→As} (hi : ∀ a w O R,(f a).p w O R→(g a).p w O R) {l : List α} {O R : Nat→Prop} (h : (se (l.map f)).p w O R) : (se (l.map g)).p w O R:=by
 obtain ⟨Os,Rs,h1,h2,h3,h4⟩:=h
 refine ⟨Os,Rs,fun i a ha=>?_,by rw [List.length_map] at h2 ⊢; exact h2,by rw [List.length_map] at h3 ⊢; exact h3,by rw [List.length_map] at h4 ⊢; exact h4⟩
 rw [List.getElem?_map] at ha
 cases hl : l[i]? with
 | none=>rw [hl] at ha; cases ha
 | some x =>
  rw [hl] at ha; injection ha with ha; subst ha
  exact hi x w _ _ (h1 i (f x) (by rw [List.getElem?_map,hl]; rfl))
theorem tkLess {S : Sto} {m n : Nat} {ys : List Ct.Px} (hmn : m≤n) (h : SH B w (tksA S n ys::L)) : SH B w (tksA S m ys::L):=h.imp fun O R=>se_map_imp fun z w O R hz=>by
 obtain ⟨c,hz⟩:=hz
 exact ⟨c,se2_imp hz fun O R=>codeA_less hmn z.u c w O R⟩
theorem tkAdd {S : Sto} {n tb : Nat} {u : Ct.I Ct.Result} {ys : List Ct.Px} {xb : Nat} {e : Ct.Ex} (h : SH B w (taskA S n tb u 0::tksA S n ys::L)) : SH B w (tksA S n (ys ++ [{ tb:=tb,xb:=xb,e:=e,u:=u }])::L):=by
 have h2 : SH B w (ys.map (tko S n) ++ taskA S n tb u 0::L):=SH.se (h.fr (.c r1 .n))
 refine SH.is (l:=(ys ++ [({ tb:=tb,xb:=xb,e:=e,u:=u } : Ct.Px)]).map (tko S n)) ?_
 rw [List.map_append,List.append_assoc]; exact h2
theorem tkNil {S : Sto} {n : Nat} (h : SH B w L) : SH B w (tksA S n []::L):=SH.is (l:=[]) h
theorem getD_el {α : Type} {l : List α} {j : Nat} {d : α} (hj : j<l.length) : l.getD j d=l[j]:=by rw [List.getD_eq_getElem?_getD,List.getElem?_eq_getElem hj]; rfl
theorem pp_at {ys : List Ct.Px} {ps : List (Nat × Nat)} (hps : ys.map ppo=ps) {j : Nat} (hj : j<ys.length) : ps.getD j (0,0)=(ys[j].tb,ys[j].xb):=by
 subst hps; rw [getD_el (by simpa using hj),List.getElem_map]; rfl
theorem px_at {ys : List Ct.Px} {j : Nat} (hj : j<ys.length) : (ys.map pxo)[j]'(by simpa using hj)=(ys[j].xb,ys[j].e):=List.getElem_map ..
theorem set_same {α : Type} {l : List α} {j : Nat} (hj : j<l.length) : l.set j l[j]=l:=by simp
theorem psame_at {S : Sto} {n i k mb : Nat} {g : Ct.Ga} {s : Ct.St} {ys : List Ct.Px} {ps : List (Nat × Nat)} (h : SH B w (tksA S n ys::exsA mb (ys.map pxo)::memA mb s::L)) (hL : Ct.Lkd i g s ys) (hps : ys.map ppo=ps) (hk : k<ys.length) :
  Calls Tryz.prog 52 #[.agg (ppC (ps.getD k (0,0))).toArray] w fun e w'=>e=.returned (.bool true)∧SH B w' (tksA S n ys::exsA mb (ys.map pxo)::memA mb s::L):=by
 have h1:=(h.fr (.c r1 (.c r1 .n)))
 have h2:=SH.exGet (i:=k) (by simpa using hk) h1
 have h3:=tkGet hk (h2.fr (.c r2 .n))
 rw [px_at hk] at h3
 obtain ⟨z1,z2,u',hE⟩:=hL.ex _ (List.getElem_mem hk)
 rw [pp_at hps hk]
 refine (psame_any S n ys[k].tb ys[k].xb mb ys[k].k ys[k].e ys[k].u s (h3.fr (.c r0 (.c r1 .n))) z1 hE.same).mono ?_
 rintro e w' ⟨rfl,h⟩
 refine ⟨rfl,?_⟩
 have h4:=tkPut (z:=ys[k]) hk (h.fr (.c r0 (.c r1 .n)))
 rw [set_same hk] at h4
 have h5:=SH.exPut (i:=k) (zs:=ys.map pxo) (by simpa using hk) (h4.fr (.c r1 (.c r1 .n)))
 rw [show (ys[k].xb,ys[k].e)=(ys.map pxo)[k]'(by simpa using hk) from (px_at hk).symm,set_same] at h5
 exact h5.fr (.c r2 .n)
theorem xdone_at {k mb : Nat} {s : Ct.St} {ys : List Ct.Px} {ps : List (Nat × Nat)} (h : SH B w (exsA mb (ys.map pxo)::memA mb s::L)) (hps : ys.map ppo=ps) (hk : k<ys.length) :
  Calls Tryz.prog 51 #[.pointer (some ⟨(ps.getD k (0,0)).2,0,none⟩)] w fun e w'=>e=.returned (.bool (ys.getD k {}).e.done)∧SH B w' (exsA mb (ys.map pxo)::memA mb s::L):=by
 have h2:=SH.exGet (i:=k) (by simpa using hk) h
 rw [px_at hk] at h2
 rw [pp_at hps hk]
 refine (done_any ys[k].xb mb ⟨ys[k].e,s⟩ h2).mono ?_
 rintro e w' ⟨rfl,h⟩
 have h5:=SH.exPut (i:=k) (zs:=ys.map pxo) (by simpa using hk) h
 rw [show (ys[k].xb,ys[k].e)=(ys.map pxo)[k]'(by simpa using hk) from (px_at hk).symm,set_same] at h5
 exact ⟨by rw [getD_el hk],h5⟩
theorem lstepT {ab m n i k : Nat} {g : Ct.Ga} {s : Ct.St} {ys : List Ct.Px} {ps : List (Nat × Nat)} (h : SH B w (tksA (arSto ab) m ys::(arSto ab).a s::L)) (hm : m=n+1) (hL : Ct.Lkd i g s ys) (hi : i≤1000) (hps : ys.map ppo=ps) (hk : k<ys.length) (hd : ys[k].e.done=false) :
  Calls Tryz.prog 54 #[.pointer (some ⟨(ps.getD k (0,0)).1,0,none⟩)] w fun e w'=>e=.returned (.tuple #[])∧SH B w' (tksA (arSto ab) n (ys.set k (ys[k].next s))::(arSto ab).a ((ys[k].u).step s).1::L):=by
 subst hm
 obtain ⟨z1,z2,u',hE⟩:=hL.ex _ (List.getElem_mem hk)
 have h2:=tkGet hk h
 rw [pp_at hps hk]
 have hu : ys[k].u.ended=none:=by
  have:=hE.same.1; rw [hd] at this
  cases hq : ys[k].u.ended with
  | none=>rfl
  | some r=>rw [hq] at this; cases this
 have hs:=hL.size
 refine (tStep_any (arSto ab) (arMeth ab) n ys[k].tb ys[k].k ys[k].u s (h2.fr (.c r0 (.c r1 .n))) ⟨hL.fit,by unfold Ct.roomMax; omega⟩ hu (by omega)).mono ?_
 rintro e w' ⟨rfl,h⟩
 have h3:=tkLess (Nat.le_succ n) (h.fr (.c r2 .n))
 exact ⟨rfl,(tkPut (z:=ys[k].next s) hk (h3.fr (.c r1 (.c r0 .n))))⟩
theorem lstepX {i k mb : Nat} {g : Ct.Ga} {s : Ct.St} {ys : List Ct.Px} {ps : List (Nat × Nat)} (h : SH B w (exsA mb (ys.map pxo)::memA mb s::L)) (hL : Ct.Lkd i g s ys) (hi : i≤1000) (hps : ys.map ppo=ps) (hk : k<ys.length) (hd : ys[k].e.done=false) :
  Calls Tryz.prog 48 #[.pointer (some ⟨(ps.getD k (0,0)).2,0,none⟩)] w fun e w'=>∃ g',Ct.Lkd (i+1) g' (((ys[k].u).step s).1) (ys.set k (ys[k].next s))∧e=.returned (.tuple #[])∧SH B w' (exsA mb ((ys.set k (ys[k].next s)).map pxo)::memA mb ((ys[k].u).step s).1::L):=by
 have h2:=SH.exGet (i:=k) (by simpa using hk) h
 rw [px_at hk] at h2
 rw [pp_at hps hk]
 obtain ⟨a1,a2,a3,a4,a5,a6⟩:=hL.ready hi (List.getElem_mem hk)
 refine (step_n ys[k].xb mb ⟨ys[k].e,s⟩ Ct.FU h2 hd a1 a2 (by decide) a3 a4 a5 a6).mono ?_
 rintro e w' ⟨rfl,h,hok⟩
 obtain ⟨q1,g',q2⟩:=hL.step hi hk hd hok
 have h5:=SH.exPut (i:=k) (zs:=ys.map pxo) (by simpa using hk) h
 rw [q1]
 refine ⟨g',q2,rfl,?_⟩
 rw [List.map_set]; exact h5
theorem pps_set {s : Ct.St} {ys : List Ct.Px} {ps : List (Nat × Nat)} (hps : ys.map ppo=ps) {k : Nat} (hk : k<ys.length) : (ys.set k (ys[k].next s)).map ppo=ps:=by
 rw [List.map_set,← hps]
 have : ppo (ys[k].next s)=(ys.map ppo)[k]'(by simpa using hk):=by rw [List.getElem_map]; rfl
 rw [this,set_same]
theorem sstate_any (ab : Nat) (s : Ct.St) (h : SH B w ((arSto ab).a s::L)) (hr : s.size≤100000000000) (hf : Ct.AllFit s) :
  Calls Tryz.prog 25 #[.pointer (some ⟨ab,0,none⟩)] w fun e w'=>∃ pn cn pc cc zs,zs.map Prod.fst=nodesOf s∧e=.returned (.agg [.slice pn zs.length cn,.slice pc s.cells.length cc,.int .i64 ((s.gen : Nat) : Int)].toArray)∧SH B w' (osl 77 14 (.slice pn zs.length cn) zs.length (zs.flatMap nodeP)::osl 36 1 (.slice pc s.cells.length cc) s.cells.length (s.cells.map (Value.int .i64))::nodesF zs::(arSto ab).a s::L):=by
 refine (state_any ab s (ofSto h) hr hf).mono ?_
 rintro e w' ⟨pn,cn,pc,cc,zs,hz,rfl,h⟩
 exact ⟨pn,cn,pc,cc,zs,hz,rfl,(toSto (h.fr (.c r3 .n))).fr (.c r1 (.c r1 (.c r1 .n)))⟩
end Go.Proofs.YtmliojdkmfhmmaaGreat
end
section
namespace Go.Proofs.YtmliojdkmfhmmaaGreat
open Go.E
theorem row_56 : rowN Tryz.prog 56 = some 2:=by kernel_rfl
theorem sl_87 : Tryz.prog.underlying 87 = some (.slice 56):=by kernel_rfl
theorem sz_56 : (Tryz.prog.info? 56).map (·.size)=some 2:=by kernel_rfl
theorem zc_56 : zc Tryz.prog 56 = some [.pointer none,.pointer none]:=by kernel_rfl
theorem en_16 : Ents Tryz.prog 16:=enG Tryz.func16 rfl rfl
theorem en_53 : Ents Tryz.prog 53:=enG Tryz.func53 rfl rfl
end Go.Proofs.YtmliojdkmfhmmaaGreat
end
