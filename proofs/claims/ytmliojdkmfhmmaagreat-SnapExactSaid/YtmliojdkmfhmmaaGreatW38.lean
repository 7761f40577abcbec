/- Parts of a proof: Te, We, Q8. -/
import Derived.Test.YtmliojdkmfhmmaaGreatW09
import Derived.Test.YtmliojdkmfhmmaaGreatW37
import Derived.Test.YtmliojdkmfhmmaaGreatW16
import Derived.Test.YtmliojdkmfhmmaaGreatW13
import Derived.Test.YtmliojdkmfhmmaaGreatW04
import Derived.Test.YtmliojdkmfhmmaaGreatW32
import Derived.Test.YtmliojdkmfhmmaaGreatW20
import Derived.Test.YtmliojdkmfhmmaaGreatW24
import Derived.Test.YtmliojdkmfhmmaaGreatW25
set_option linter.unusedVariables false
set_option linter.unusedSimpArgs false
set_option maxRecDepth 100000
set_option maxHeartbeats 4000000
section
namespace Go.Proofs.YtmliojdkmfhmmaaGreat
attribute [local irreducible] Go.E.wpL Go.E.wpS Go.E.X Go.E.XS Go.E.C Go.E.thn Go.E.blk Go.E.fin Go.E.Y Go.E.U Go.E.F Go.E.Ca Go.E.Res Go.E.bl Go.E.rb Go.E.osl Go.E.rsl Go.E.ex Go.E.ce Go.E.pu Go.E.sK Go.E.gK Go.E.bK Go.E.zK Go.E.boxA Go.E.cloA Go.E.codeA
open Go.RowKit Go.E
def tapE (b : Nat) (l : List Int) : As:=ex fun i : Nat=>tapeA b l i
variable {B w : World} {L : List As}
theorem next_e (b : Nat) (l : List Int) (n : Int) (h : SH B w (tapE b l::L)) (h0 : 0<n) (h1 : n≤9223372036854775807) :
  Calls Tryz.prog 46 #[.pointer (some ⟨b,0,none⟩),.int .i64 n] w fun e w'=>∃ j : Nat,(j : Int)<n∧e=.returned (.int .i64 ((j : Nat) : Int))∧SH B w' (tapE b l::L):=by
 obtain ⟨i,h⟩:=SH.ex h
 refine (Next_any b l i n h h0 h1).mono ?_
 rintro _ w ⟨rfl,h⟩
 have nx:=nextV_lt l i h0
 obtain ⟨j,hj⟩:=Int.eq_ofNat_of_zero_le nx.1
 exact ⟨j,by omega,by rw [hj],SH.in_ _ h⟩
theorem left_e (b : Nat) (l : List Int) (h : SH B w (tapE b l::L)) :
  Calls Tryz.prog 45 #[.pointer (some ⟨b,0,none⟩)] w fun e w'=>∃ r : Bool,e=.returned (.bool r)∧SH B w' (tapE b l::L):=by
 obtain ⟨i,h⟩:=SH.ex h
 refine (Left_any b l i h).mono ?_
 rintro _ w ⟨rfl,h⟩
 exact ⟨_,rfl,SH.in_ _ h⟩
theorem new_e (l : List Int) (p : Option Addr) (c : Nat) (h : SH B w (rsl 1 (.slice p l.length c) l.length (l.map (Value.int .i64))::L)) :
  Calls Tryz.prog 14 #[.slice p l.length c] w fun e w'=>∃ b,e=.returned (.pointer (some ⟨b,0,none⟩))∧SH B w' (tapE b l::L):=by
 refine (New_any l p c h).mono ?_
 rintro _ w ⟨b,rfl,h⟩
 exact ⟨b,rfl,SH.in_ _ h⟩
structure Ks where
 k : ByteArray:=.empty
structure Ms where
 m : Nat:=0
def ksC (s : Ks) : List Value:=[.string s.k]
def msC (s : Ms) : List Value:=[.int .u64 ((s.m : Nat) : Int)]
theorem ksC_len (s : Ks) : (ksC s).length=1:=rfl
theorem msC_len (s : Ms) : (msC s).length=1:=rfl
def keyl : List Ks:=[{ k :=⟨#[97]⟩ },{ k :=⟨#[98]⟩ },{ k :=⟨#[99]⟩ },{ k :=⟨#[100]⟩ },{ k :=⟨#[97,98]⟩ },{ k:=.empty },{ k :=⟨#[98,48]⟩ },{ k :=⟨#[107,101,121]⟩ }]
def maskl : List Ms:=[{ m:=18446744073709551615 },{ m:=0 },{ m:=1 },{ m:=64 },{ m:=63 },{ m:=4095 },{ m:=9223372036854775808 },{ m:=4032 },{ m:=3458764513820540928 },{ m:=18446744073709551615 }]
theorem getD_all {α : Type} {p : α→Prop} {d : α} (hd : p d) : ∀ {l : List α},(∀ x,x ∈ l→p x)→∀ j,p (l.getD j d)
 | [],_,_=>hd
 | x::l,h,0=>h x (.head _)
 | x::l,h,j+1=>getD_all hd (fun y hy=>h y (.tail _ hy)) j
theorem key_size (j : Nat) : (keyl.getD j {}).k.size≤8:=getD_all (p:=fun s : Ks=>s.k.size≤8) (by decide) (by decide) j
theorem mask_lt (j : Nat) : (maskl.getD j {}).m<18446744073709551616:=getD_all (p:=fun s : Ms=>s.m<18446744073709551616) (by decide) (by decide) j
theorem key_e (b : Nat) (l : List Int) (h : SH B w (tapE b l::L)) :
  Calls Tryz.prog 50 #[.pointer (some ⟨b,0,none⟩)] w fun e w'=>∃ k : ByteArray,k.size≤8∧e=.returned (.string k)∧SH B w' (tapE b l::L):=by
 refine bn0 Tryz.func50 Tryz.ntmps50 h fun w h=>?_
 refine sf (bu [.string (⟨#[97]⟩),.string (⟨#[98]⟩),.string (⟨#[99]⟩),.string (⟨#[100]⟩),.string (⟨#[97,98]⟩),.string .empty,.string (⟨#[98,48]⟩),.string (⟨#[107,101,121]⟩)] h Slc.h Ss.h rfl (by kernel_rfl) rfl (by decide) (by decide)) ?_
 rintro _ w ⟨b1,rfl,h⟩
 refine go h fun w h=>?_
 have h : SH B w (osl 9 1 (.slice (some ⟨b1,0,none⟩) 8 8) 8 (keyl.flatMap ksC)::tapE b l::L):=h
 refine j110 (next_e _ _ _ h.to (by omega) (by omega)) fun j2 hj3 w h=>?_
 refine st (ld One.h rfl ((h.ro a1).x ksC_len (by decide) (by show _<8; omega) {} 0 _ rfl))<|go h fun w h=>?_
 exact rz ⟨_,key_size _,rfl,h.to⟩
theorem mask_e (b : Nat) (l : List Int) (h : SH B w (tapE b l::L)) :
  Calls Tryz.prog 44 #[.pointer (some ⟨b,0,none⟩)] w fun e w'=>∃ m : Nat,m<18446744073709551616∧e=.returned (.int .u64 ((m : Nat) : Int))∧SH B w' (tapE b l::L):=by
 refine bn0 Tryz.func44 Tryz.ntmps44 h fun w h=>?_
 refine sf (bu [.int .u64 18446744073709551615,.int .u64 0,.int .u64 1,.int .u64 64,.int .u64 63,.int .u64 4095,.int .u64 9223372036854775808,.int .u64 4032,.int .u64 3458764513820540928,.int .u64 18446744073709551615] h Slc.h Ss.h rfl (by kernel_rfl) rfl (by decide) (by decide)) ?_
 rintro _ w ⟨b1,rfl,h⟩
 refine go h fun w h=>?_
 have h : SH B w (osl 28 1 (.slice (some ⟨b1,0,none⟩) 10 10) 10 (maskl.flatMap msC)::tapE b l::L):=h
 refine j110 (next_e _ _ _ h.to (by omega) (by omega)) fun j2 hj3 w h=>?_
 refine st (ld One.h rfl ((h.ro a1).x msC_len (by decide) (by show _<10; omega) {} 0 _ rfl))<|go h fun w h=>?_
 exact rz ⟨_,mask_lt _,rfl,h.to⟩
end Go.Proofs.YtmliojdkmfhmmaaGreat
end
section
namespace Go.E
open Go.Proofs.YtmliojdkmfhmmaaGreat Go.RowKit
variable {B w : World} {L : List As}
theorem rem_map {α β : Type} {f : α→β} {M : List β} : ∀ {zs : List α} {i : Nat} (hi : i<zs.length),Rem (zs.map f ++ M) (f zs[i]) ((zs.eraseIdx i).map f ++ M)
 | z::zs,0,_=>.z
 | z::zs,i+1,hi=>.s (rem_map (by simpa using hi))
theorem rem_mapset {α β : Type} {f : α→β} {M : List β} {a : α} : ∀ {zs : List α} {i : Nat} (_ : i<zs.length),Rem ((zs.set i a).map f ++ M) (f a) ((zs.eraseIdx i).map f ++ M)
 | _::zs,0,_=>.z
 | _::zs,i+1,hi=>.s (rem_mapset (by simpa using hi))
theorem rem_app {α : Type} {a : α} {M : List α} : ∀ {l : List α},Rem (l ++ a::M) a (l ++ M)
 | []=>.z
 | _::_=>.s rem_app
def exOf (mb : Nat) (z : Nat × Ct.Ex) : As:=exA z.1 mb z.2
def exsA (mb : Nat) (zs : List (Nat × Ct.Ex)) : As:=Go.E.se (zs.map (exOf mb))
theorem SH.exGet {mb : Nat} {s : Ct.St} {zs : List (Nat × Ct.Ex)} {i : Nat} (hi : i<zs.length) (h : SH B w (exsA mb zs::memA mb s::L)) : SH B w (XA zs[i].1 mb ⟨zs[i].2,s⟩::exsA mb (zs.eraseIdx i)::L):=by
 have h1:=(SH.se h).fr (.c (rem_map hi) .n)
 have h2 : SH B w ((zs.eraseIdx i).map (exOf mb) ++ exOf mb zs[i]::memA mb s::L):=SH.back (A:=exOf mb zs[i]) h1 rem_app
 have h3:=(SH.is h2).fr (.c r1 (.c r1 .n))
 exact SH.is (l:=[exA zs[i].1 mb zs[i].2,memA mb s]) h3
theorem SH.exPut {mb : Nat} {s : Ct.St} {zs : List (Nat × Ct.Ex)} {i b : Nat} {e : Ct.Ex} (hi : i<zs.length) (h : SH B w (XA b mb ⟨e,s⟩::exsA mb (zs.eraseIdx i)::L)) : SH B w (exsA mb (zs.set i (b,e))::memA mb s::L):=by
 have h1:=(SH.se (l:=[exA b mb e,memA mb s]) h).fr (.c r2 .n)
 have h2 : SH B w (exOf mb (b,e)::((zs.eraseIdx i).map (exOf mb) ++ memA mb s::L)):=(SH.se h1).fr (.c rem_app .n)
 exact SH.is (l:=(zs.set i (b,e)).map (exOf mb)) (SH.back (A:=exOf mb (b,e)) h2 (rem_mapset hi))
theorem SH.exNil {mb : Nat} (h : SH B w L) : SH B w (exsA mb []::L):=SH.is (l:=[]) h
theorem SH.exAdd {mb : Nat} {s : Ct.St} {zs : List (Nat × Ct.Ex)} {b : Nat} {e : Ct.Ex} (h : SH B w (XA b mb ⟨e,s⟩::exsA mb zs::L)) : SH B w (exsA mb (zs ++ [(b,e)])::memA mb s::L):=by
 have h1:=(SH.se (l:=[exA b mb e,memA mb s]) h).fr (.c r2 .n)
 have h2 : SH B w (zs.map (exOf mb) ++ exOf mb (b,e)::memA mb s::L):=SH.se h1
 refine SH.is (l:=(zs ++ [(b,e)]).map (exOf mb)) ?_
 rw [List.map_append,List.append_assoc]; exact h2
theorem SH.exDrop {mb : Nat} {x : Ct.X} {b : Nat} (h : SH B w (XA b mb x::L)) : SH B w (memA mb x.s::L):=(SH.se (l:=[exA b mb x.e,memA mb x.s]) h).drop
end Go.E
end
section
namespace Go.Proofs.YtmliojdkmfhmmaaGreat
attribute [local irreducible] Go.E.wpL Go.E.wpS Go.E.X Go.E.XS Go.E.C Go.E.thn Go.E.blk Go.E.fin Go.E.Y Go.E.U Go.E.F Go.E.Ca Go.E.Res Go.E.bl Go.E.rb Go.E.osl Go.E.rsl Go.E.ex Go.E.ce Go.E.pu Go.E.sK Go.E.gK Go.E.bK Go.E.zK Go.E.boxA Go.E.cloA Go.E.codeA
open Go.RowKit Go.E Go.Ct
def Ct.create (s : Ct.St) : Ct.St × Ct.Trie :=
 let a:=s.alloc { kind:=3 } 0
 let g:=a.1.newGen
 let m:=g.1.alloc { kind:=2,gen:=g.2 } a.2
 let c:=m.1.newCell m.2
 (c.1,{ root:=c.2 })
variable {B w : World} {L : List As}
theorem start_any (mb : Nat) (s : Ct.St) (c : Ct.Call) (F : Nat) (h : SH B w (memA mb s::L)) (k : Ct.Ok 60 (Ct.repeatX 0 (⟨{ call:=c },s⟩ : Ct.X))) (hx : (Ct.repeatX 0 (⟨{ call:=c },s⟩ : Ct.X)).left<F) (hF : F≤100000000000) (hm : c.mask<18446744073709551616) (hky : c.key.size≤9223372036854775807) (hk7 : 7≤c.kind) (hk12 : c.kind≤12) :
  Calls Tryz.prog 18 #[.pointer (some ⟨mb,0,none⟩),.agg [.int .i64 c.kind,.int .i64 c.trie.root,.bool c.trie.readOnly,.int .i64 c.a,.int .i64 c.b,.int .i64 c.n,.int .i64 c.index,.int .u64 ((c.hash : Nat) : Int),.int .u64 ((c.mask : Nat) : Int),.string c.key,.int .u64 ((c.value : Nat) : Int),.int .u64 ((c.expect : Nat) : Int),.int .i64 c.policy,.bool c.only,.bool c.walk.started,.slice none 0 0,.slice none 0 0,.int .i64 c.answer.err,.bool c.answer.found,.int .u64 ((c.answer.value : Nat) : Int),.string c.answer.key,.int .i64 c.answer.count,.int .i64 c.answer.ref,.int .i64 c.answer.trie.root,.bool c.answer.trie.readOnly].toArray] w fun e w'=>∃ xb,e=.returned (.pointer (some ⟨xb,0,none⟩))∧SH B w' (XA xb mb (Ct.stepX (Ct.callI c F) 0 (⟨{ call:=c },s⟩ : Ct.X))::L)∧Ct.Ok 50 (Ct.stepX (Ct.callI c F) 0 (⟨{ call:=c },s⟩ : Ct.X)):=by
 refine bn0 Tryz.func18 Tryz.ntmps18 h fun w h=>?_
 refine jX h fun b1 w h=>?_
 refine jX h fun b2 w h=>?_
 have h:=h.fr (.c r0 (.c r1 .n))
 have h:=SH.nil 36 1 (SH.nil 36 1 (SH.nil 33 1 (SH.nil 3 1 h)))
 have h:=h.fr (.c r4 .n)
 have h : SH B w (XA b2 mb (⟨{ call:=c },s⟩ : Ct.X)::bl b1 ([.int .i64 c.kind,.int .i64 c.trie.root,.bool c.trie.readOnly,.int .i64 c.a,.int .i64 c.b,.int .i64 c.n,.int .i64 c.index,.int .u64 ((c.hash : Nat) : Int),.int .u64 ((c.mask : Nat) : Int),.string c.key,.int .u64 ((c.value : Nat) : Int),.int .u64 ((c.expect : Nat) : Int),.int .i64 c.policy,.bool c.only,.bool c.walk.started,.slice none 0 0,.slice none 0 0,.int .i64 c.answer.err,.bool c.answer.found,.int .u64 ((c.answer.value : Nat) : Int),.string c.answer.key,.int .i64 c.answer.count,.int .i64 c.answer.ref,.int .i64 c.answer.trie.root,.bool c.answer.trie.readOnly]) 45::L):=SH.xi (e:={ call:=c }) ⟨none,0,none,0,none,0,none,0⟩ h
 refine go h fun w h=>?_
 refine j001 (repeat_any _ _ (⟨{ call:=c },s⟩ : Ct.X) _ _ h.to k (by decide) hx hF hm hky hk7 hk12) fun w h k=>?_
 exact rz ⟨_,rfl,h.to,k⟩
section
attribute [local semireducible] Go.E.wpL Go.E.wpS Go.E.X Go.E.XS Go.E.C Go.E.thn Go.E.blk Go.E.fin Go.E.Y Go.E.U Go.E.F Go.E.Ca Go.E.Res Go.E.bl Go.E.rb Go.E.osl Go.E.rsl Go.E.ex Go.E.ce Go.E.pu Go.E.sK Go.E.gK Go.E.bK Go.E.zK Go.E.boxA Go.E.cloA Go.E.codeA
attribute [local irreducible] Go.E.wpL Go.E.wpS
variable {B w : World} {L : List As}
theorem create_any (mb : Nat) (s : Ct.St) (h : SH B w (memA mb s::L)) (hr : s.size≤90000000000) :
  Calls Tryz.prog 39 #[.pointer (some ⟨mb,0,none⟩)] w fun e w'=>e=.returned (.agg (trieC (Ct.create s).2).toArray)∧SH B w' (memA mb (Ct.create s).1::L):=by
 refine bgn (args:=[_]) Tryz.func39 rfl Tryz.ntmps39 rfl ?_
 refine sq<|rg<|sf (al h zc_35)<|?_
 rintro _ w ⟨b1,rfl,h⟩
 refine xe<|nx<|sq<|rg<|st (mv rfl)<|st (bd [.int .i64 3,.int .i64 0,.int .i64 0,.int .u64 0,.slice none 0 0,.int .u64 0,.string .empty,.int .u64 0,.slice none 0 0,.int .i64 0,.int .i64 0,.int .i64 0,.int .i64 0,.int .i64 0] bd_77 rfl (by kernel_rfl))<|cl (ca en_82 rfl) ((alloc_any mb s ({ kind:=3 } : Ct.Node) {} 0 (SH.nilN ({ kind:=3 } : Ct.Node) rfl rfl (h.fr (.c r1 .n))) (by omega) (Nat.zero_le _) (Nat.zero_le _)).mono ?_)
 rintro _ w ⟨rfl,h⟩
 have z2:=(Ct.St.alloc_size s ({ kind:=3 } : Ct.Node) 0).1
 refine ⟨_,rfl,?_⟩
 refine st (sg rfl)<|xe<|nx<|sq<|rg<|st (mv rfl)<|cl (ca en_83 rfl) ((newGen_any mb (s.alloc ({ kind:=3 } : Ct.Node) 0).1 (h.fr (.c r0 .n)) (by omega)).mono ?_)
 rintro _ w ⟨rfl,h⟩
 have z3 : (s.alloc ({ kind:=3 } : Ct.Node) 0).1.newGen.1.size≤(s.alloc ({ kind:=3 } : Ct.Node) 0).1.size+1:=by unfold Ct.St.newGen Ct.St.size; dsimp only; omega
 refine ⟨_,rfl,?_⟩
 refine st (sg rfl)<|xe<|nx<|sq<|rg<|st (mv rfl)<|st (mv rfl)<|st (mv rfl)<|st (bd [.int .i64 2,.int .i64 (s.alloc ({ kind:=3 } : Ct.Node) 0).1.newGen.2,.int .i64 0,.int .u64 0,.slice none 0 0,.int .u64 0,.string .empty,.int .u64 0,.slice none 0 0,.int .i64 0,.int .i64 0,.int .i64 0,.int .i64 0,.int .i64 0] bd_77 rfl (by kernel_rfl))<|st (mv rfl)<|cl (ca en_82 rfl) ((alloc_any mb (s.alloc ({ kind:=3 } : Ct.Node) 0).1.newGen.1 ({ kind:=2,gen:=(s.alloc ({ kind:=3 } : Ct.Node) 0).1.newGen.2 } : Ct.Node) {} (s.alloc ({ kind:=3 } : Ct.Node) 0).2 (SH.nilN ({ kind:=2,gen:=(s.alloc ({ kind:=3 } : Ct.Node) 0).1.newGen.2 } : Ct.Node) rfl rfl (h.fr (.c r0 .n))) (by omega) (Nat.zero_le _) (Nat.zero_le _)).mono ?_)
 rintro _ w ⟨rfl,h⟩
 have z4:=(Ct.St.alloc_size (s.alloc ({ kind:=3 } : Ct.Node) 0).1.newGen.1 ({ kind:=2,gen:=(s.alloc ({ kind:=3 } : Ct.Node) 0).1.newGen.2 } : Ct.Node) (s.alloc ({ kind:=3 } : Ct.Node) 0).2).1
 refine ⟨_,rfl,?_⟩
 refine cl (ca en_84 rfl) ((newCell_any mb ((s.alloc ({ kind:=3 } : Ct.Node) 0).1.newGen.1.alloc ({ kind:=2,gen:=(s.alloc ({ kind:=3 } : Ct.Node) 0).1.newGen.2 } : Ct.Node) (s.alloc ({ kind:=3 } : Ct.Node) 0).2).1 ((s.alloc ({ kind:=3 } : Ct.Node) 0).1.newGen.1.alloc ({ kind:=2,gen:=(s.alloc ({ kind:=3 } : Ct.Node) 0).1.newGen.2 } : Ct.Node) (s.alloc ({ kind:=3 } : Ct.Node) 0).2).2 (h.fr (.c r0 .n)) (by omega)).mono ?_)
 rintro _ w ⟨rfl,h⟩
 refine ⟨_,rfl,?_⟩
 refine st (bd [.int .i64 (((s.alloc ({ kind:=3 } : Ct.Node) 0).1.newGen.1.alloc ({ kind:=2,gen:=(s.alloc ({ kind:=3 } : Ct.Node) 0).1.newGen.2 } : Ct.Node) (s.alloc ({ kind:=3 } : Ct.Node) 0).2).1.newCell ((s.alloc ({ kind:=3 } : Ct.Node) 0).1.newGen.1.alloc ({ kind:=2,gen:=(s.alloc ({ kind:=3 } : Ct.Node) 0).1.newGen.2 } : Ct.Node) (s.alloc ({ kind:=3 } : Ct.Node) 0).2).2).2,.bool false] bd_35 rfl (by kernel_rfl))<|sf (so h rfl rfl rfl sz_35 rfl (.r (.r .d)) u1)<|?_
 rintro _ w h
 refine xe<|nx<|rt<|?_
 refine rr (resC Tryz.results39 rfl (h.b a1) row_35)<|⟨rfl,(h.fr (.c r1 .n)).drop⟩
end
variable {B w : World} {L : List As}
theorem new_any  (h : SH B w (L)) :
  Calls Tryz.prog 43 #[] w fun e w'=>∃ mb,e=.returned (.pointer (some ⟨mb,0,none⟩))∧SH B w' (memA mb {}::L):=by
 refine bn0 Tryz.func43 Tryz.ntmps43 h fun w h=>?_
 refine sf (bu [.int .i64 1,.int .i64 0,.int .i64 0,.int .u64 0,.slice none 0 0,.int .u64 0,.string .empty,.int .u64 0,.slice none 0 0,.int .i64 0,.int .i64 0,.int .i64 0,.int .i64 0,.int .i64 0,.int .i64 1,.int .i64 0,.int .i64 0,.int .u64 0,.slice none 0 0,.int .u64 0,.string .empty,.int .u64 0,.slice none 0 0,.int .i64 0,.int .i64 0,.int .i64 0,.int .i64 0,.int .i64 0] h Slc.h Ss.h rfl (by kernel_rfl) rfl (by decide) (by decide)) ?_
 rintro _ w ⟨b1,rfl,h⟩
 refine go h fun w h=>?_
 refine jX h fun b2 w h=>?_
 refine rz ?_
 refine ⟨_,rfl,SH.mi ⟨some ⟨b1,0,none⟩,2,none,0,[(({ kind:=1 } : Ct.Node),{}),(({ kind:=1 } : Ct.Node),{})]⟩ rfl ?_⟩
 have h:=h.fr (.c r0 (.c r0 .n))
 have h:=SH.nilN ({ kind:=1 } : Ct.Node) rfl rfl (SH.nilN ({ kind:=1 } : Ct.Node) rfl rfl h.nilF)
 have h:=h.addR2
 have h:=SH.nil 36 1 h
 exact h.fr (.c r2 (.c r2 (.c r0 (.c r0 .n))))
end Go.Proofs.YtmliojdkmfhmmaaGreat
end
