/- Parts of a proof: Te, We, Q8, Tg, Th. -/
import Derived.Test.YtmliojdkmfhmmaaGreatW37
import Derived.Test.YtmliojdkmfhmmaaGreatW16
import Derived.Test.YtmliojdkmfhmmaaGreatW13
import Derived.Test.YtmliojdkmfhmmaaGreatW04
import Derived.Test.YtmliojdkmfhmmaaGreatW09
import Derived.Test.YtmliojdkmfhmmaaGreatW32
import Derived.Test.YtmliojdkmfhmmaaGreatW20
import Derived.Test.YtmliojdkmfhmmaaGreatW24
import Derived.Test.YtmliojdkmfhmmaaGreatW25
set_option linter.unusedVariables false
set_option linter.unusedSimpArgs false
set_option maxRecDepth 100000
set_option maxHeartbeats 4000000
section
namespace Go.Proofs.YtmliojdkmfhmmaaGreat
open Go.RowKit Go.E
attribute [local irreducible] Go.E.wpL Go.E.wpS
def tapE (b : Nat) (l : List Int) : As:=ex fun i : Nat=>tapeA b l i
variable {B w : World} {L : List As}
theorem next_e (b : Nat) (l : List Int) (n : Int) (h : SH B w (tapE b l::L)) (h0 : 0<n) (h1 : n≤9223372036854775807) :
  Calls Tryz.prog 46 #[.pointer (some ⟨b,0,none⟩),.int .i64 n] w fun e w'=>∃ j : Nat,(j : Int)<n∧e=.returned (.int .i64 ((j : Nat) : Int))∧SH B w' (tapE b l::L):=by
 obtain ⟨i,h⟩:=SH.ex h
 refine (Next_any b l i n h h0 h1).mono ?_
 rintro _ w ⟨rfl,h⟩
 have nx:=nextV_lt l i h0
 obtain ⟨j,hj⟩:=Int.eq_ofNat_of_zero_le nx.1
 exact ⟨j,by omega,by rw [hj],SH.in_ _ h⟩
theorem left_e (b : Nat) (l : List Int) (h : SH B w (tapE b l::L)) :
  Calls Tryz.prog 45 #[.pointer (some ⟨b,0,none⟩)] w fun e w'=>∃ r : Bool,e=.returned (.bool r)∧SH B w' (tapE b l::L):=by
 obtain ⟨i,h⟩:=SH.ex h
 refine (Left_any b l i h).mono ?_
 rintro _ w ⟨rfl,h⟩
 exact ⟨_,rfl,SH.in_ _ h⟩
theorem new_e (l : List Int) (p : Option Addr) (c : Nat) (h : SH B w (rsl 1 (.slice p l.length c) l.length (l.map (Value.int .i64))::L)) :
  Calls Tryz.prog 14 #[.slice p l.length c] w fun e w'=>∃ b,e=.returned (.pointer (some ⟨b,0,none⟩))∧SH B w' (tapE b l::L):=by
 refine (New_any l p c h).mono ?_
 rintro _ w ⟨b,rfl,h⟩
 exact ⟨b,rfl,SH.in_ _ h⟩
structure Ks where
 k : ByteArray:=.empty
structure Ms where
 m : Nat:=0
def ksC (s : Ks) : List Value:=[.string s.k]
def msC (s : Ms) : List Value:=[.int .u64 ((s.m : Nat) : Int)]
theorem ksC_len (s : Ks) : (ksC s).length=1:=rfl
theorem msC_len (s : Ms) : (msC s).length=1:=rfl
def keyl : List Ks:=[{ k :=⟨#[97]⟩ },{ k :=⟨#[98]⟩ },{ k :=⟨#[99]⟩ },{ k :=⟨#[100]⟩ },{ k :=⟨#[97,98]⟩ },{ k:=.empty },{ k :=⟨#[98,48]⟩ },{ k :=⟨#[107,101,121]⟩ }]
def maskl : List Ms:=[{ m:=18446744073709551615 },{ m:=0 },{ m:=1 },{ m:=64 },{ m:=63 },{ m:=4095 },{ m:=9223372036854775808 },{ m:=4032 },{ m:=3458764513820540928 },{ m:=18446744073709551615 }]
theorem getD_all {α : Type} {p : α→Prop} {d : α} (hd : p d) : ∀ {l : List α},(∀ x,x ∈ l→p x)→∀ j,p (l.getD j d)
 | [],_,_=>hd
 | x::l,h,0=>h x (.head _)
 | x::l,h,j+1=>getD_all hd (fun y hy=>h y (.tail _ hy)) j
theorem key_size (j : Nat) : (keyl.getD j {}).k.size≤8:=getD_all (p:=fun s : Ks=>s.k.size≤8) (by decide) (by decide) j
theorem mask_lt (j : Nat) : (maskl.getD j {}).m<18446744073709551616:=getD_all (p:=fun s : Ms=>s.m<18446744073709551616) (by decide) (by decide) j
theorem key_e (b : Nat) (l : List Int) (h : SH B w (tapE b l::L)) :
  Calls Tryz.prog 50 #[.pointer (some ⟨b,0,none⟩)] w fun e w'=>∃ k : ByteArray,k.size≤8∧e=.returned (.string k)∧SH B w' (tapE b l::L):=by
 refine bgn (args:=[_]) Tryz.func50 rfl Tryz.ntmps50 rfl ?_
 refine sq<|rg<|st (sg rfl)<|xe<|nx<|sq<|rg<|sf (bu [.string (⟨#[97]⟩),.string (⟨#[98]⟩),.string (⟨#[99]⟩),.string (⟨#[100]⟩),.string (⟨#[97,98]⟩),.string .empty,.string (⟨#[98,48]⟩),.string (⟨#[107,101,121]⟩)] h sl_164 ss_9 rfl (by kernel_rfl) rfl (by decide) (by decide))<|?_
 rintro _ w ⟨b1,rfl,h⟩
 refine st (mv rfl)<|?_
 have h : SH B w (osl 9 1 (.slice (some ⟨b1,0,none⟩) 8 8) 8 (keyl.flatMap ksC)::tapE b l::L):=h
 refine cl (ca en_46 rfl) ((next_e b l 8 (h.fr (.c r1 .n)) (by omega) (by omega)).mono ?_)
 rintro _ w ⟨j2,hj3,rfl,h⟩
 refine ⟨_,rfl,?_⟩
 refine st (ix (j:=j2) sl_164 sz_9 rfl rfl (by show _<8; omega))<|st (ld one_9 rfl ((h.ro a1).x ksC_len (by decide) (by show _<8; omega) {} 0 _ rfl))<|st (sg rfl)<|xe<|nx<|rt<|?_
 refine rr (res1 Tryz.results50 rfl)<|⟨_,key_size _,rfl,(h.fr (.c r1 .n)).drop⟩
theorem mask_e (b : Nat) (l : List Int) (h : SH B w (tapE b l::L)) :
  Calls Tryz.prog 44 #[.pointer (some ⟨b,0,none⟩)] w fun e w'=>∃ m : Nat,m<18446744073709551616∧e=.returned (.int .u64 ((m : Nat) : Int))∧SH B w' (tapE b l::L):=by
 refine bgn (args:=[_]) Tryz.func44 rfl Tryz.ntmps44 rfl ?_
 refine sq<|rg<|st (sg rfl)<|xe<|nx<|sq<|rg<|sf (bu [.int .u64 18446744073709551615,.int .u64 0,.int .u64 1,.int .u64 64,.int .u64 63,.int .u64 4095,.int .u64 9223372036854775808,.int .u64 4032,.int .u64 3458764513820540928,.int .u64 18446744073709551615] h sl_160 ss_28 rfl (by kernel_rfl) rfl (by decide) (by decide))<|?_
 rintro _ w ⟨b1,rfl,h⟩
 refine st (mv rfl)<|?_
 have h : SH B w (osl 28 1 (.slice (some ⟨b1,0,none⟩) 10 10) 10 (maskl.flatMap msC)::tapE b l::L):=h
 refine cl (ca en_46 rfl) ((next_e b l 10 (h.fr (.c r1 .n)) (by omega) (by omega)).mono ?_)
 rintro _ w ⟨j2,hj3,rfl,h⟩
 refine ⟨_,rfl,?_⟩
 refine st (ix (j:=j2) sl_160 sz_28 rfl rfl (by show _<10; omega))<|st (ld one_28 rfl ((h.ro a1).x msC_len (by decide) (by show _<10; omega) {} 0 _ rfl))<|st (sg rfl)<|xe<|nx<|rt<|?_
 refine rr (res1 Tryz.results44 rfl)<|⟨_,mask_lt _,rfl,(h.fr (.c r1 .n)).drop⟩
end Go.Proofs.YtmliojdkmfhmmaaGreat
end
section
namespace Go.E
open Go.Proofs.YtmliojdkmfhmmaaGreat Go.RowKit
variable {B w : World} {L : List As}
theorem rem_map {α β : Type} {f : α→β} {M : List β} : ∀ {zs : List α} {i : Nat} (hi : i<zs.length),Rem (zs.map f ++ M) (f zs[i]) ((zs.eraseIdx i).map f ++ M)
 | z::zs,0,_=>.z
 | z::zs,i+1,hi=>.s (rem_map (by simpa using hi))
theorem rem_mapset {α β : Type} {f : α→β} {M : List β} {a : α} : ∀ {zs : List α} {i : Nat} (_ : i<zs.length),Rem ((zs.set i a).map f ++ M) (f a) ((zs.eraseIdx i).map f ++ M)
 | _::zs,0,_=>.z
 | _::zs,i+1,hi=>.s (rem_mapset (by simpa using hi))
theorem rem_app {α : Type} {a : α} {M : List α} : ∀ {l : List α},Rem (l ++ a::M) a (l ++ M)
 | []=>.z
 | _::_=>.s rem_app
def exOf (mb : Nat) (z : Nat × Ct.Ex) : As:=exA z.1 mb z.2
def exsA (mb : Nat) (zs : List (Nat × Ct.Ex)) : As:=Go.E.se (zs.map (exOf mb))
theorem SH.exGet {mb : Nat} {s : Ct.St} {zs : List (Nat × Ct.Ex)} {i : Nat} (hi : i<zs.length) (h : SH B w (exsA mb zs::memA mb s::L)) : SH B w (XA zs[i].1 mb ⟨zs[i].2,s⟩::exsA mb (zs.eraseIdx i)::L):=by
 have h1:=(SH.se h).fr (.c (rem_map hi) .n)
 have h2 : SH B w ((zs.eraseIdx i).map (exOf mb) ++ exOf mb zs[i]::memA mb s::L):=SH.back (A:=exOf mb zs[i]) h1 rem_app
 have h3:=(SH.is h2).fr (.c r1 (.c r1 .n))
 exact SH.is (l:=[exA zs[i].1 mb zs[i].2,memA mb s]) h3
theorem SH.exPut {mb : Nat} {s : Ct.St} {zs : List (Nat × Ct.Ex)} {i b : Nat} {e : Ct.Ex} (hi : i<zs.length) (h : SH B w (XA b mb ⟨e,s⟩::exsA mb (zs.eraseIdx i)::L)) : SH B w (exsA mb (zs.set i (b,e))::memA mb s::L):=by
 have h1:=(SH.se (l:=[exA b mb e,memA mb s]) h).fr (.c r2 .n)
 have h2 : SH B w (exOf mb (b,e)::((zs.eraseIdx i).map (exOf mb) ++ memA mb s::L)):=(SH.se h1).fr (.c rem_app .n)
 exact SH.is (l:=(zs.set i (b,e)).map (exOf mb)) (SH.back (A:=exOf mb (b,e)) h2 (rem_mapset hi))
theorem SH.exNil {mb : Nat} (h : SH B w L) : SH B w (exsA mb []::L):=SH.is (l:=[]) h
theorem SH.exAdd {mb : Nat} {s : Ct.St} {zs : List (Nat × Ct.Ex)} {b : Nat} {e : Ct.Ex} (h : SH B w (XA b mb ⟨e,s⟩::exsA mb zs::L)) : SH B w (exsA mb (zs ++ [(b,e)])::memA mb s::L):=by
 have h1:=(SH.se (l:=[exA b mb e,memA mb s]) h).fr (.c r2 .n)
 have h2 : SH B w (zs.map (exOf mb) ++ exOf mb (b,e)::memA mb s::L):=SH.se h1
 refine SH.is (l:=(zs ++ [(b,e)]).map (exOf mb)) ?_
 rw [List.map_append,List.append_assoc]; exact h2
theorem SH.exDrop {mb : Nat} {x : Ct.X} {b : Nat} (h : SH B w (XA b mb x::L)) : SH B w (memA mb x.s::L):=(SH.se (l:=[exA b mb x.e,memA mb x.s]) h).drop
end Go.E
end
section
namespace Go.Proofs.YtmliojdkmfhmmaaGreat
attribute [local irreducible] Go.E.wpL Go.E.wpS Go.E.X Go.E.XS Go.E.C Go.E.thn Go.E.blk Go.E.fin Go.E.Y Go.E.U Go.E.F Go.E.Ca Go.E.Res Go.E.bl Go.E.rb Go.E.osl Go.E.rsl Go.E.ex Go.E.ce Go.E.pu Go.E.sK Go.E.gK Go.E.bK Go.E.zK Go.E.boxA Go.E.cloA Go.E.codeA
open Go.RowKit Go.E Go.Ct
def Ct.create (s : Ct.St) : Ct.St × Ct.Trie :=
 let a:=s.alloc { kind:=3 } 0
 let g:=a.1.newGen
 let m:=g.1.alloc { kind:=2,gen:=g.2 } a.2
 let c:=m.1.newCell m.2
 (c.1,{ root:=c.2 })
variable {B w : World} {L : List As}
theorem start_any (mb : Nat) (s : Ct.St) (c : Ct.Call) (F : Nat) (h : SH B w (memA mb s::L)) (k : Ct.Ok 60 (Ct.repeatX 0 (⟨{ call:=c },s⟩ : Ct.X))) (hx : (Ct.repeatX 0 (⟨{ call:=c },s⟩ : Ct.X)).left<F) (hF : F≤100000000000) (hm : c.mask<18446744073709551616) (hky : c.key.size≤9223372036854775807) (hk7 : 7≤c.kind) (hk12 : c.kind≤12) :
  Calls Tryz.prog 18 #[.pointer (some ⟨mb,0,none⟩),.agg [.int .i64 c.kind,.int .i64 c.trie.root,.bool c.trie.readOnly,.int .i64 c.a,.int .i64 c.b,.int .i64 c.n,.int .i64 c.index,.int .u64 ((c.hash : Nat) : Int),.int .u64 ((c.mask : Nat) : Int),.string c.key,.int .u64 ((c.value : Nat) : Int),.int .u64 ((c.expect : Nat) : Int),.int .i64 c.policy,.bool c.only,.bool c.walk.started,.slice none 0 0,.slice none 0 0,.int .i64 c.answer.err,.bool c.answer.found,.int .u64 ((c.answer.value : Nat) : Int),.string c.answer.key,.int .i64 c.answer.count,.int .i64 c.answer.ref,.int .i64 c.answer.trie.root,.bool c.answer.trie.readOnly].toArray] w fun e w'=>∃ xb,e=.returned (.pointer (some ⟨xb,0,none⟩))∧SH B w' (XA xb mb (Ct.stepX (Ct.callI c F) 0 (⟨{ call:=c },s⟩ : Ct.X))::L)∧Ct.Ok 50 (Ct.stepX (Ct.callI c F) 0 (⟨{ call:=c },s⟩ : Ct.X)):=by
 refine bn0 Tryz.func18 Tryz.ntmps18 h fun w h=>?_
 refine jX h fun b1 w h=>?_
 refine jX h fun b2 w h=>?_
 have h:=h.fr (.c r0 (.c r1 .n))
 have h:=SH.nil 36 1 (SH.nil 36 1 (SH.nil 33 1 (SH.nil 3 1 h)))
 have h:=h.fr (.c r4 .n)
 have h : SH B w (XA b2 mb (⟨{ call:=c },s⟩ : Ct.X)::bl b1 ([.int .i64 c.kind,.int .i64 c.trie.root,.bool c.trie.readOnly,.int .i64 c.a,.int .i64 c.b,.int .i64 c.n,.int .i64 c.index,.int .u64 ((c.hash : Nat) : Int),.int .u64 ((c.mask : Nat) : Int),.string c.key,.int .u64 ((c.value : Nat) : Int),.int .u64 ((c.expect : Nat) : Int),.int .i64 c.policy,.bool c.only,.bool c.walk.started,.slice none 0 0,.slice none 0 0,.int .i64 c.answer.err,.bool c.answer.found,.int .u64 ((c.answer.value : Nat) : Int),.string c.answer.key,.int .i64 c.answer.count,.int .i64 c.answer.ref,.int .i64 c.answer.trie.root,.bool c.answer.trie.readOnly]) 45::L):=SH.xi (e:={ call:=c }) ⟨none,0,none,0,none,0,none,0⟩ h
 refine go h fun w h=>?_
 refine j001 (repeat_any _ _ (⟨{ call:=c },s⟩ : Ct.X) _ _ h.to k (by decide) hx hF hm hky hk7 hk12) fun w h k=>?_
 exact rz ⟨_,rfl,h.to,k⟩
section
attribute [local semireducible] Go.E.wpL Go.E.wpS Go.E.X Go.E.XS Go.E.C Go.E.thn Go.E.blk Go.E.fin Go.E.Y Go.E.U Go.E.F Go.E.Ca Go.E.Res Go.E.bl Go.E.rb Go.E.osl Go.E.rsl Go.E.ex Go.E.ce Go.E.pu Go.E.sK Go.E.gK Go.E.bK Go.E.zK Go.E.boxA Go.E.cloA Go.E.codeA
attribute [local irreducible] Go.E.wpL Go.E.wpS
variable {B w : World} {L : List As}
theorem create_any (mb : Nat) (s : Ct.St) (h : SH B w (memA mb s::L)) (hr : s.size≤10000000000) :
  Calls Tryz.prog 39 #[.pointer (some ⟨mb,0,none⟩)] w fun e w'=>e=.returned (.agg (trieC (Ct.create s).2).toArray)∧SH B w' (memA mb (Ct.create s).1::L):=by
 refine bgn (args:=[_]) Tryz.func39 rfl Tryz.ntmps39 rfl ?_
 refine sq<|rg<|sf (al h zc_35)<|?_
 rintro _ w ⟨b1,rfl,h⟩
 refine xe<|nx<|sq<|rg<|st (mv rfl)<|st (bd [.int .i64 3,.int .i64 0,.int .i64 0,.int .u64 0,.slice none 0 0,.int .u64 0,.string .empty,.int .u64 0,.slice none 0 0,.int .i64 0,.int .i64 0,.int .i64 0,.int .i64 0,.int .i64 0] bd_77 rfl (by kernel_rfl))<|cl (ca en_82 rfl) ((alloc_any mb s ({ kind:=3 } : Ct.Node) {} 0 (SH.nilN ({ kind:=3 } : Ct.Node) rfl rfl (h.fr (.c r1 .n))) (by omega) (Nat.zero_le _) (Nat.zero_le _)).mono ?_)
 rintro _ w ⟨rfl,h⟩
 have z2:=(Ct.St.alloc_size s ({ kind:=3 } : Ct.Node) 0).1
 refine ⟨_,rfl,?_⟩
 refine st (sg rfl)<|xe<|nx<|sq<|rg<|st (mv rfl)<|cl (ca en_83 rfl) ((newGen_any mb (s.alloc ({ kind:=3 } : Ct.Node) 0).1 (h.fr (.c r0 .n)) (by omega)).mono ?_)
 rintro _ w ⟨rfl,h⟩
 have z3 : (s.alloc ({ kind:=3 } : Ct.Node) 0).1.newGen.1.size≤(s.alloc ({ kind:=3 } : Ct.Node) 0).1.size+1:=by unfold Ct.St.newGen Ct.St.size; dsimp only; omega
 refine ⟨_,rfl,?_⟩
 refine st (sg rfl)<|xe<|nx<|sq<|rg<|st (mv rfl)<|st (mv rfl)<|st (mv rfl)<|st (bd [.int .i64 2,.int .i64 (s.alloc ({ kind:=3 } : Ct.Node) 0).1.newGen.2,.int .i64 0,.int .u64 0,.slice none 0 0,.int .u64 0,.string .empty,.int .u64 0,.slice none 0 0,.int .i64 0,.int .i64 0,.int .i64 0,.int .i64 0,.int .i64 0] bd_77 rfl (by kernel_rfl))<|st (mv rfl)<|cl (ca en_82 rfl) ((alloc_any mb (s.alloc ({ kind:=3 } : Ct.Node) 0).1.newGen.1 ({ kind:=2,gen:=(s.alloc ({ kind:=3 } : Ct.Node) 0).1.newGen.2 } : Ct.Node) {} (s.alloc ({ kind:=3 } : Ct.Node) 0).2 (SH.nilN ({ kind:=2,gen:=(s.alloc ({ kind:=3 } : Ct.Node) 0).1.newGen.2 } : Ct.Node) rfl rfl (h.fr (.c r0 .n))) (by omega) (Nat.zero_le _) (Nat.zero_le _)).mono ?_)
 rintro _ w ⟨rfl,h⟩
 have z4:=(Ct.St.alloc_size (s.alloc ({ kind:=3 } : Ct.Node) 0).1.newGen.1 ({ kind:=2,gen:=(s.alloc ({ kind:=3 } : Ct.Node) 0).1.newGen.2 } : Ct.Node) (s.alloc ({ kind:=3 } : Ct.Node) 0).2).1
 refine ⟨_,rfl,?_⟩
 refine cl (ca en_84 rfl) ((newCell_any mb ((s.alloc ({ kind:=3 } : Ct.Node) 0).1.newGen.1.alloc ({ kind:=2,gen:=(s.alloc ({ kind:=3 } : Ct.Node) 0).1.newGen.2 } : Ct.Node) (s.alloc ({ kind:=3 } : Ct.Node) 0).2).1 ((s.alloc ({ kind:=3 } : Ct.Node) 0).1.newGen.1.alloc ({ kind:=2,gen:=(s.alloc ({ kind:=3 } : Ct.Node) 0).1.newGen.2 } : Ct.Node) (s.alloc ({ kind:=3 } : Ct.Node) 0).2).2 (h.fr (.c r0 .n)) (by omega)).mono ?_)
 rintro _ w ⟨rfl,h⟩
 refine ⟨_,rfl,?_⟩
 refine st (bd [.int .i64 (((s.alloc ({ kind:=3 } : Ct.Node) 0).1.newGen.1.alloc ({ kind:=2,gen:=(s.alloc ({ kind:=3 } : Ct.Node) 0).1.newGen.2 } : Ct.Node) (s.alloc ({ kind:=3 } : Ct.Node) 0).2).1.newCell ((s.alloc ({ kind:=3 } : Ct.Node) 0).1.newGen.1.alloc ({ kind:=2,gen:=(s.alloc ({ kind:=3 } : Ct.Node) 0).1.newGen.2 } : Ct.Node) (s.alloc ({ kind:=3 } : Ct.Node) 0).2).2).2,.bool false] bd_35 rfl (by kernel_rfl))<|sf (so h rfl rfl rfl sz_35 rfl (.r (.r .d)) u1)<|?_
 rintro _ w h
 refine xe<|nx<|rt<|?_
 refine rr (resC Tryz.results39 rfl (h.b a1) row_35)<|⟨rfl,(h.fr (.c r1 .n)).drop⟩
end
variable {B w : World} {L : List As}
theorem new_any  (h : SH B w (L)) :
  Calls Tryz.prog 43 #[] w fun e w'=>∃ mb,e=.returned (.pointer (some ⟨mb,0,none⟩))∧SH B w' (memA mb {}::L):=by
 refine bn0 Tryz.func43 Tryz.ntmps43 h fun w h=>?_
 refine sf (bu [.int .i64 1,.int .i64 0,.int .i64 0,.int .u64 0,.slice none 0 0,.int .u64 0,.string .empty,.int .u64 0,.slice none 0 0,.int .i64 0,.int .i64 0,.int .i64 0,.int .i64 0,.int .i64 0,.int .i64 1,.int .i64 0,.int .i64 0,.int .u64 0,.slice none 0 0,.int .u64 0,.string .empty,.int .u64 0,.slice none 0 0,.int .i64 0,.int .i64 0,.int .i64 0,.int .i64 0,.int .i64 0] h Slc.h Ss.h rfl (by kernel_rfl) rfl (by decide) (by decide)) ?_
 rintro _ w ⟨b1,rfl,h⟩
 refine go h fun w h=>?_
 refine jX h fun b2 w h=>?_
 refine rz ?_
 refine ⟨_,rfl,SH.mi ⟨some ⟨b1,0,none⟩,2,none,0,[(({ kind:=1 } : Ct.Node),{}),(({ kind:=1 } : Ct.Node),{})]⟩ rfl ?_⟩
 have h:=h.fr (.c r0 (.c r0 .n))
 have h:=SH.nilN ({ kind:=1 } : Ct.Node) rfl rfl (SH.nilN ({ kind:=1 } : Ct.Node) rfl rfl h.nilF)
 have h:=h.addR2
 have h:=SH.nil 36 1 h
 exact h.fr (.c r2 (.c r2 (.c r0 (.c r0 .n))))
end Go.Proofs.YtmliojdkmfhmmaaGreat
end
section
namespace Go.Proofs.YtmliojdkmfhmmaaGreat
attribute [local irreducible] Go.E.wpL Go.E.wpS Go.E.X Go.E.XS Go.E.C Go.E.thn Go.E.blk Go.E.fin Go.E.Y Go.E.U Go.E.F Go.E.Ca Go.E.Res Go.E.bl Go.E.rb Go.E.osl Go.E.rsl Go.E.ex Go.E.ce Go.E.pu Go.E.sK Go.E.gK Go.E.bK Go.E.zK Go.E.boxA Go.E.cloA Go.E.codeA
open Go.RowKit Go.E
def pxC (z : Nat × Ct.Ex) : List Value:=[.pointer (some ⟨z.1,0,none⟩)]
theorem pxC_len (z : Nat × Ct.Ex) : (pxC z).length=1:=rfl
theorem trieC_len (t : Ct.Trie) : (trieC t).length=2:=rfl
theorem wrapj {j : Nat} (h : (j : Int)<18446744073709551616) : IntKind.u64.wrap (j : Int)=j:=by rw [IntKind.wrap_u64]; omega
theorem modN {a b : Nat} (h : 0<b) : ((a : Nat) : Int).tmod ((b : Nat) : Int)=((a % b : Nat) : Int):=by rw [Int.tmod_eq_emod_of_nonneg (by omega)]; exact (Int.natCast_emod a b).symm
theorem getD_mem {α : Type} {d : α} : ∀ {l : List α} {j : Nat},j<l.length→l.getD j d ∈ l
 | x::l,0,_=>.head _
 | x::l,j+1,h=>.tail _ (getD_mem (by simpa using h))
structure Wq where
 pt : Option Addr:=none
 ct : Nat:=0
 px : Option Addr:=none
 cx : Nat:=0
def wldL (b mb mask : Nat) (ts : List Ct.Trie) (zs : List (Nat × Ct.Ex)) (q : Wq) : List As :=
 [bl b [.pointer (some ⟨mb,0,none⟩),.int .u64 ((mask : Nat) : Int),.slice q.pt ts.length q.ct,.slice q.px zs.length q.cx] 32,osl 35 2 (.slice q.pt ts.length q.ct) ts.length (ts.flatMap trieC),osl 53 1 (.slice q.px zs.length q.cx) zs.length (zs.flatMap pxC)]
def wldA (b mb mask : Nat) (ts : List Ct.Trie) (zs : List (Nat × Ct.Ex)) : As:=ex fun q : Wq=>se (wldL b mb mask ts zs q)
variable {B w : World} {L : List As}
theorem _root_.Go.E.SH.wo {b mb mask : Nat} {ts : List Ct.Trie} {zs : List (Nat × Ct.Ex)} (h : SH B w (wldA b mb mask ts zs::L)) : ∃ q,SH B w (wldL b mb mask ts zs q ++ L):=by
 obtain ⟨q,h⟩:=SH.ex (f:=fun q : Wq=>Go.E.se (wldL b mb mask ts zs q)) h
 exact ⟨q,h.se⟩
theorem _root_.Go.E.SH.wi {b mb mask : Nat} {ts : List Ct.Trie} {zs : List (Nat × Ct.Ex)} (q : Wq) (h : SH B w (wldL b mb mask ts zs q ++ L)) : SH B w (wldA b mb mask ts zs::L) :=
 SH.in_ (f:=fun q : Wq=>Go.E.se (wldL b mb mask ts zs q)) q (SH.is h)
def callW (c : Ct.Call) : List Value:=[.int .i64 c.kind,.int .i64 c.trie.root,.bool c.trie.readOnly,.int .i64 c.a,.int .i64 c.b,.int .i64 c.n,.int .i64 c.index,.int .u64 ((c.hash : Nat) : Int),.int .u64 ((c.mask : Nat) : Int),.string c.key,.int .u64 ((c.value : Nat) : Int),.int .u64 ((c.expect : Nat) : Int),.int .i64 c.policy,.bool c.only,.bool c.walk.started,.slice none 0 0,.slice none 0 0,.int .i64 c.answer.err,.bool c.answer.found,.int .u64 ((c.answer.value : Nat) : Int),.string c.answer.key,.int .i64 c.answer.count,.int .i64 c.answer.ref,.int .i64 c.answer.trie.root,.bool c.answer.trie.readOnly]
theorem wcall_any (b mb tb mask : Nat) (ts : List Ct.Trie) (zs : List (Nat × Ct.Ex)) (l : List Int) (kind : Int) (h : SH B w (wldA b mb mask ts zs::tapE tb l::L)) (ht : 0<ts.length) (hl : ts.length≤5) (hk7 : 7≤kind) (hk12 : kind≤12) (h0 : (ts.getD 0 {}).readOnly=false) :
  Calls Tryz.prog 13 #[.pointer (some ⟨b,0,none⟩),.int .i64 kind,.pointer (some ⟨tb,0,none⟩)] w fun e w'=>∃ c : Ct.Call,c.kind=kind∧c.mask=mask∧c.key.size≤8∧c.trie ∈ ts∧(c.kind=8∨c.kind=9∨c.kind=12→c.trie.readOnly=false)∧e=.returned (.agg (callW c).toArray)∧SH B w' (wldA b mb mask ts zs::tapE tb l::L):=by
 obtain ⟨⟨twp,twc,xwp,xwc⟩,h⟩:=h.wo
 have h : SH B w (bl b ([.pointer (some ⟨mb,0,none⟩),.int .u64 ((mask : Nat) : Int),.slice twp ts.length twc,.slice xwp zs.length xwc]) 32::osl 35 2 (.slice twp ts.length twc) ts.length (ts.flatMap trieC)::osl 53 1 (.slice xwp zs.length xwc) zs.length (zs.flatMap pxC)::tapE tb l::L):=h
 refine bn0 Tryz.func13 Tryz.ntmps13 h fun w h=>?_
 refine sf (al h zc_45)<|?_
 rintro _ w ⟨b1,rfl,h⟩
 refine xe<|nx<|?_
 refine sm (fun e w=>∃ cb : Nat,∃ ky : ByteArray,∃ jv : Nat,∃ jx : Nat,∃ jp : Nat,∃ only : Bool,Sub 109 e (.c 0 (.pointer (some ⟨b,0,none⟩)) (.c 1 (.int .i64 kind) (.c 2 (.pointer (some ⟨tb,0,none⟩)) (.c 6 (.pointer (some ⟨b1,0,none⟩)) (.c 7 (.pointer (some ⟨cb,0,none⟩)) .n)))))∧SH B w (bl cb ([.int .i64 kind,.int .i64 0,.bool false,.int .i64 0,.int .i64 0,.int .i64 0,.int .i64 0,.int .u64 0,.int .u64 ((mask : Nat) : Int),.string ky,.int .u64 ((jv : Nat) : Int),.int .u64 ((jx : Nat) : Int),.int .i64 ((jp : Nat) : Int),.bool only,.bool false,.slice none 0 0,.slice none 0 0,.int .i64 0,.bool false,.int .u64 0,.string .empty,.int .i64 0,.int .i64 0,.int .i64 0,.bool false]) 45::bl b1 ([.int .i64 0,.int .i64 0,.bool false,.int .i64 0,.int .i64 0,.int .i64 0,.int .i64 0,.int .u64 0,.int .u64 0,.string .empty,.int .u64 0,.int .u64 0,.int .i64 0,.bool false,.bool false,.slice none 0 0,.slice none 0 0,.int .i64 0,.bool false,.int .u64 0,.string .empty,.int .i64 0,.int .i64 0,.int .i64 0,.bool false]) 45::bl b ([.pointer (some ⟨mb,0,none⟩),.int .u64 ((mask : Nat) : Int),.slice twp ts.length twc,.slice xwp zs.length xwc]) 32::osl 35 2 (.slice twp ts.length twc) ts.length (ts.flatMap trieC)::osl 53 1 (.slice xwp zs.length xwc) zs.length (zs.flatMap pxC)::tapE tb l::L)∧(ky.size≤8)) ?_ ?_
 refine drT (F:=[bl b ([.pointer (some ⟨mb,0,none⟩),.int .u64 ((mask : Nat) : Int),.slice twp ts.length twc,.slice xwp zs.length xwc]) 32]) (.op 0 true (.op 1 true (.op 2 true (.op 3 true (.op 4 true (.op 5 true (.op 7 true (.op 10 true (.op 13 true (.op 15 true (.fork 6 19 (.fork 8 19 (.op 9 true (.fork 11 19 (.op 12 true (.fork 14 19 (.fork 16 19 (.op 17 true (.op 18 true (.op 19 false (.op 20 false .stop)))) (.op 16 false (.op 17 true (.op 18 true (.op 20 false .stop))))) (.op 14 false (.op 16 false (.op 17 true (.op 18 true (.op 20 false .stop))))))) (.op 11 false (.op 12 true (.op 14 false (.op 16 false (.op 17 true (.op 18 true (.op 20 false .stop))))))))) (.op 8 false (.op 9 true (.op 11 false (.op 12 true (.op 14 false (.op 16 false (.op 17 true (.op 18 true (.op 20 false .stop)))))))))) (.op 6 false (.op 8 false (.op 9 true (.op 11 false (.op 12 true (.op 14 false (.op 16 false (.op 17 true (.op 18 true (.op 20 false .stop))))))))))))))))))))) (by kernel_rfl) h (fun w h=>(hC (h.at_ a1) hN)) fun w h=>go h fun w h=>?_
 refine xzT ?_ ?_
 refine s110 (key_e _ _ h.to) fun ky2 hk3 w h=>?_
 refine xzT ?_ ?_
 refine s110 (next_e _ _ _ h.to (by omega) (by omega)) fun j4 hj5 w h=>?_
 refine tk (fun W H=>cvw un_3 un_28 rfl (wrapj (by omega)))<|go h fun w h=>?_
 refine xzT ?_ ?_
 refine s110 (next_e _ _ _ h.to (by omega) (by omega)) fun j6 hj7 w h=>?_
 refine tk (fun W H=>cvw un_3 un_28 rfl (wrapj (by omega)))<|go h fun w h=>?_
 refine xzT ?_ ?_
 refine s110 (next_e _ _ _ h.to (by omega) (by omega)) fun j8 hj9 w h=>?_
 refine xzT ?_ ?_
 refine s110 (next_e _ _ _ h.to (by omega) (by omega)) fun j10 hj11 w h=>?_
 refine jB h fun b12 w h=>?_
 exact ⟨b12,ky2,j4,j6,j8,((((j10 : Nat) : Int) : Int)==0),⟨rfl,rfl,rfl,rfl,rfl,trivial⟩,h.to,hk3⟩
 refine jB h fun b13 w h=>?_
 refine s110 (next_e _ _ _ h.to (by omega) (by omega)) fun j14 hj15 w h=>?_
 exact ⟨b13,ky2,j4,j6,j8,((((j14 : Nat) : Int) : Int)==0),⟨rfl,rfl,rfl,rfl,rfl,trivial⟩,h.to,hk3⟩
 refine jB h fun b16 w h=>?_
 refine s110 (next_e _ _ _ h.to (by omega) (by omega)) fun j17 hj18 w h=>?_
 refine s110 (next_e _ _ _ h.to (by omega) (by omega)) fun j19 hj20 w h=>?_
 exact ⟨b16,ky2,j4,j6,j17,((((j19 : Nat) : Int) : Int)==0),⟨rfl,rfl,rfl,rfl,rfl,trivial⟩,h.to,hk3⟩
 refine jB h fun b21 w h=>?_
 refine s110 (next_e _ _ _ h.to (by omega) (by omega)) fun j22 hj23 w h=>?_
 refine tk (fun W H=>cvw un_3 un_28 rfl (wrapj (by omega)))<|go h fun w h=>?_
 refine s110 (next_e _ _ _ h.to (by omega) (by omega)) fun j24 hj25 w h=>?_
 refine s110 (next_e _ _ _ h.to (by omega) (by omega)) fun j26 hj27 w h=>?_
 exact ⟨b21,ky2,j4,j22,j24,((((j26 : Nat) : Int) : Int)==0),⟨rfl,rfl,rfl,rfl,rfl,trivial⟩,h.to,hk3⟩
 refine jB h fun b28 w h=>?_
 refine s110 (next_e _ _ _ h.to (by omega) (by omega)) fun j29 hj30 w h=>?_
 refine tk (fun W H=>cvw un_3 un_28 rfl (wrapj (by omega)))<|go h fun w h=>?_
 refine s110 (next_e _ _ _ h.to (by omega) (by omega)) fun j31 hj32 w h=>?_
 refine tk (fun W H=>cvw un_3 un_28 rfl (wrapj (by omega)))<|go h fun w h=>?_
 refine s110 (next_e _ _ _ h.to (by omega) (by omega)) fun j33 hj34 w h=>?_
 refine s110 (next_e _ _ _ h.to (by omega) (by omega)) fun j35 hj36 w h=>?_
 exact ⟨b28,ky2,j29,j31,j33,((((j35 : Nat) : Int) : Int)==0),⟨rfl,rfl,rfl,rfl,rfl,trivial⟩,h.to,hk3⟩
 refine jB h fun b37 w h=>?_
 refine s110 (key_e _ _ h.to) fun ky38 hk39 w h=>?_
 refine s110 (next_e _ _ _ h.to (by omega) (by omega)) fun j40 hj41 w h=>?_
 refine tk (fun W H=>cvw un_3 un_28 rfl (wrapj (by omega)))<|go h fun w h=>?_
 refine s110 (next_e _ _ _ h.to (by omega) (by omega)) fun j42 hj43 w h=>?_
 refine tk (fun W H=>cvw un_3 un_28 rfl (wrapj (by omega)))<|go h fun w h=>?_
 refine s110 (next_e _ _ _ h.to (by omega) (by omega)) fun j44 hj45 w h=>?_
 refine s110 (next_e _ _ _ h.to (by omega) (by omega)) fun j46 hj47 w h=>?_
 exact ⟨b37,ky38,j40,j42,j44,((((j46 : Nat) : Int) : Int)==0),⟨rfl,rfl,rfl,rfl,rfl,trivial⟩,h.to,hk39⟩
 rintro e w ⟨cb,ky,jv,jx,jp,only,hE,h,hkc⟩
 refine C.sub hE ?_
 clear hE e
 refine go h fun w h=>?_
 refine gT rfl rfl (beq_eq_false_iff_ne.2 (by omega))<|go h fun w h=>?_
 refine gT rfl rfl (beq_eq_false_iff_ne.2 (by omega))<|go h fun w h=>?_
 refine st (pF rfl (beq_eq_false_iff_ne.2 (by omega)) rfl)<|?_
 refine st (sg rfl)<|xe<|nx<|?_
 refine sm (fun e w=>∃ wr : Bool,Sub 109 e (.c 0 (.pointer (some ⟨b,0,none⟩)) (.c 2 (.pointer (some ⟨tb,0,none⟩)) (.c 6 (.pointer (some ⟨b1,0,none⟩)) (.c 7 (.pointer (some ⟨cb,0,none⟩)) (.c 8 (.bool ((kind : Int)==13)) (.c 9 (.bool wr) .n))))))∧SH B w (bl cb ([.int .i64 kind,.int .i64 0,.bool false,.int .i64 0,.int .i64 0,.int .i64 0,.int .i64 0,.int .u64 0,.int .u64 ((mask : Nat) : Int),.string ky,.int .u64 ((jv : Nat) : Int),.int .u64 ((jx : Nat) : Int),.int .i64 ((jp : Nat) : Int),.bool only,.bool false,.slice none 0 0,.slice none 0 0,.int .i64 0,.bool false,.int .u64 0,.string .empty,.int .i64 0,.int .i64 0,.int .i64 0,.bool false]) 45::bl b1 ([.int .i64 0,.int .i64 0,.bool false,.int .i64 0,.int .i64 0,.int .i64 0,.int .i64 0,.int .u64 0,.int .u64 0,.string .empty,.int .u64 0,.int .u64 0,.int .i64 0,.bool false,.bool false,.slice none 0 0,.slice none 0 0,.int .i64 0,.bool false,.int .u64 0,.string .empty,.int .i64 0,.int .i64 0,.int .i64 0,.bool false]) 45::bl b ([.pointer (some ⟨mb,0,none⟩),.int .u64 ((mask : Nat) : Int),.slice twp ts.length twc,.slice xwp zs.length xwc]) 32::osl 35 2 (.slice twp ts.length twc) ts.length (ts.flatMap trieC)::osl 53 1 (.slice xwp zs.length xwc) zs.length (zs.flatMap pxC)::tapE tb l::L)∧(wr=false→¬ (kind=8∨kind=9∨kind=12))) ?_ ?_
 rcases Bool.eq_false_or_eq_true ((kind : Int)==8) with hd48 | hd48 <;> refine go h fun w h=>?_
 have hg49:=eq_of_beq hd48
 refine go h fun w h=>?_
 exact ⟨true,⟨rfl,rfl,rfl,rfl,rfl,rfl,trivial⟩,h,(fun hz=>Bool.noConfusion hz)⟩
 have hg50:=ne_of_beq_false hd48
 refine go h fun w h=>?_
 refine qg h (fun hd51 w h=>?_) fun hd51 w h=>?_
 have hg52:=eq_of_beq hd51
 refine go h fun w h=>?_
 exact ⟨true,⟨rfl,rfl,rfl,rfl,rfl,rfl,trivial⟩,h,(fun hz=>Bool.noConfusion hz)⟩
 have hg53:=ne_of_beq_false hd51
 refine go h fun w h=>?_
 refine qg h (fun hd54 w h=>?_) fun hd54 w h=>?_
 have hg55:=eq_of_beq hd54
 refine go h fun w h=>?_
 exact ⟨true,⟨rfl,rfl,rfl,rfl,rfl,rfl,trivial⟩,h,(fun hz=>Bool.noConfusion hz)⟩
 have hg56:=ne_of_beq_false hd54
 refine go h fun w h=>?_
 exact ⟨((kind : Int)==4),⟨rfl,rfl,rfl,rfl,rfl,rfl,trivial⟩,h,(fun _ hc=>by have hhd48:=ne_of_beq_false hd48; have hhd51:=ne_of_beq_false hd51; have hhd54:=ne_of_beq_false hd54; omega)⟩
 rintro e w ⟨wr,hE,h,hwr⟩
 refine C.sub hE ?_
 clear hE e
 refine go h fun w h=>?_
 refine j110 (next_e _ _ _ h.to (by omega) (by omega)) fun j57 hj58 w h=>?_
 refine lp (α:=Nat × Ct.Trie) (fun ρ=>(.c 0 (.pointer (some ⟨b,0,none⟩)) (.c 6 (.pointer (some ⟨b1,0,none⟩)) (.c 7 (.pointer (some ⟨cb,0,none⟩)) (.c 8 (.bool ((kind : Int)==13)) (.c 9 (.bool wr) (.c 10 (.int .i64 ((j57 : Nat) : Int)) (.c 11 (.int .i64 ((ρ.1 : Nat) : Int)) .n)))))))) (fun ρ w=>SH B w (bl cb ([.int .i64 kind,.int .i64 ρ.2.root,.bool ρ.2.readOnly,.int .i64 0,.int .i64 0,.int .i64 0,.int .i64 0,.int .u64 0,.int .u64 ((mask : Nat) : Int),.string ky,.int .u64 ((jv : Nat) : Int),.int .u64 ((jx : Nat) : Int),.int .i64 ((jp : Nat) : Int),.bool only,.bool false,.slice none 0 0,.slice none 0 0,.int .i64 0,.bool false,.int .u64 0,.string .empty,.int .i64 0,.int .i64 0,.int .i64 0,.bool false]) 45::tapE tb l::bl b1 ([.int .i64 0,.int .i64 0,.bool false,.int .i64 0,.int .i64 0,.int .i64 0,.int .i64 0,.int .u64 0,.int .u64 0,.string .empty,.int .u64 0,.int .u64 0,.int .i64 0,.bool false,.bool false,.slice none 0 0,.slice none 0 0,.int .i64 0,.bool false,.int .u64 0,.string .empty,.int .i64 0,.int .i64 0,.int .i64 0,.bool false]) 45::bl b ([.pointer (some ⟨mb,0,none⟩),.int .u64 ((mask : Nat) : Int),.slice twp ts.length twc,.slice xwp zs.length xwc]) 32::osl 35 2 (.slice twp ts.length twc) ts.length (ts.flatMap trieC)::osl 53 1 (.slice xwp zs.length xwc) zs.length (zs.flatMap pxC)::L)∧(ρ.1≤ts.length)) (fun ρ=>ts.length - ρ.1) (0,({} : Ct.Trie)) ⟨rfl,rfl,rfl,rfl,rfl,rfl,rfl,trivial⟩ ⟨h.to,(Nat.zero_le _)⟩ ?_
 rintro ⟨i,trx⟩ w ⟨h,hi⟩
 dsimp only at *
 refine go h fun w h=>?_
 refine qc h (fun hd59 w h=>?_) fun hd59 w h=>?_
 have hg60:=of_decide_eq_true hd59
 refine go h fun w h=>?_
 have hmod:=Nat.mod_lt (j57+i) ht
 obtain ⟨b61,rfl⟩:=h.fp a4 (by omega)
 refine drH [1,3,5,7,9,11,13,15,17,19,21,23,25,27,29,31,32] (by kernel_rfl) h (.c r3 (.c r3 .n)) fun w h=>go h fun w h=>?_
 refine tk (fun W H=>ba ((j57+i : Nat) : Int))<|go h fun w h=>?_
 refine tk (fun W H=>brw rfl rfl (by omega) (modN (by omega)))<|tk (fun W H=>ix1 ((j57+i) % ts.length))<|tk (fun W H=>ldr rfl ((H.ro a1).x trieC_len (by decide) (by omega) {}) Row.h)<|go h fun w h=>?_
 refine qg h (fun hd62 w h=>?_) fun hd62 w h=>?_
 refine qg h (fun hd63 w h=>?_) fun hd63 w h=>?_
 have hd64 : wr=false:=by simpa using hd63
 refine go h fun w h=>?_
 refine rr (resC rfl rfl (h.b a2) Row.h) ?_
 refine ⟨({ kind:=kind,trie:=(ts.getD ((j57+i) % ts.length) {}),mask:=mask,key:=ky,value:=jv,expect:=jx,policy:=jp,only:=only } : Ct.Call),rfl,rfl,hkc,?_,?_,rfl,(by have h:=((h.fr (.c r0 (.c r1 .n))).drop.drop.fr (.c r1 (.c r1 (.c r1 (.c r0 .n))))); exact SH.wi ⟨some ⟨b61,0,none⟩,twc,xwp,xwc⟩ h)⟩
 exact getD_mem (Nat.mod_lt _ ht)
 exact fun hc=>absurd hc (hwr (by simpa using hd64))
 have hd65 : wr=true:=by simpa using hd63
 refine go h fun w h=>?_
 exact ⟨((i+1),(ts.getD ((j57+i) % ts.length) {})),⟨rfl,rfl,rfl,rfl,rfl,rfl,rfl,trivial⟩,⟨h,by (try dsimp only); omega⟩,by (try dsimp only); omega⟩
 refine ct rfl (notF (beq_eq_false_iff_ne.2 (by omega)))<|go h fun w h=>?_
 refine rr (resC rfl rfl (h.b a2) Row.h) ?_
 refine ⟨({ kind:=kind,trie:=(ts.getD ((j57+i) % ts.length) {}),mask:=mask,key:=ky,value:=jv,expect:=jx,policy:=jp,only:=only } : Ct.Call),rfl,rfl,hkc,?_,?_,rfl,(by have h:=((h.fr (.c r0 (.c r1 .n))).drop.drop.fr (.c r1 (.c r1 (.c r1 (.c r0 .n))))); exact SH.wi ⟨some ⟨b61,0,none⟩,twc,xwp,xwc⟩ h)⟩
 exact getD_mem (Nat.mod_lt _ ht)
 exact fun _=>hd62
 have hg66:=of_decide_eq_false hd59
 refine go h fun w h=>?_
 obtain ⟨b67,rfl⟩:=h.fp a4 (by omega)
 refine go h fun w h=>?_
 refine st (ldr rfl ((h.ro a4).x trieC_len (by decide) (j:=0) (by omega) {}) Row.h)<|go h fun w h=>?_
 refine rr (resC rfl rfl (h.b a2) Row.h) ?_
 refine ⟨({ kind:=kind,trie:=(ts.getD 0 {}),mask:=mask,key:=ky,value:=jv,expect:=jx,policy:=jp,only:=only } : Ct.Call),rfl,rfl,hkc,?_,?_,rfl,(by have h:=((h.fr (.c r0 (.c r1 .n))).drop.drop.fr (.c r1 (.c r1 (.c r1 (.c r0 .n))))); exact SH.wi ⟨some ⟨b67,0,none⟩,twc,xwp,xwc⟩ h)⟩
 exact getD_mem ht
 exact fun _=>h0
end Go.Proofs.YtmliojdkmfhmmaaGreat
end
section
namespace Go.Proofs.YtmliojdkmfhmmaaGreat
attribute [local irreducible] Go.E.wpL Go.E.wpS Go.E.X Go.E.XS Go.E.C Go.E.thn Go.E.blk Go.E.fin Go.E.Y Go.E.U Go.E.F Go.E.Ca Go.E.Res Go.E.bl Go.E.rb Go.E.osl Go.E.rsl Go.E.ex Go.E.ce Go.E.pu Go.E.sK Go.E.gK Go.E.bK Go.E.zK Go.E.boxA Go.E.cloA Go.E.codeA
open Go.RowKit Go.E
def keepZ (zs : List (Nat × Ct.Ex)) (b : Nat) (e : Ct.Ex) : List (Nat × Ct.Ex):=if e.done=true then zs else zs ++ [(b,e)]
def keepT (ts : List Ct.Trie) (e : Ct.Ex) : List Ct.Trie:=if e.done=true∧0<e.result.trie.root∧ts.length<5 then ts ++ [e.result.trie] else ts
variable {B w : World} {L : List As}
theorem keep_any (b mb xb mask : Nat) (ts : List Ct.Trie) (zs : List (Nat × Ct.Ex)) (x : Ct.X) (h : SH B w (wldA b mb mask ts zs::XA xb mb x::exsA mb zs::L)) (ht : ts.length≤5) (hz : zs.length≤100) :
  Calls Tryz.prog 97 #[.pointer (some ⟨b,0,none⟩),.pointer (some ⟨xb,0,none⟩)] w fun e w'=>e=.returned (.tuple #[])∧SH B w' (wldA b mb mask (keepT ts x.e) (keepZ zs xb x.e)::exsA mb (keepZ zs xb x.e)::memA mb x.s::L):=by
 obtain ⟨⟨twp,twc,xwp,xwc⟩,h⟩:=h.wo
 have h : SH B w (bl b ([.pointer (some ⟨mb,0,none⟩),.int .u64 ((mask : Nat) : Int),.slice twp ts.length twc,.slice xwp zs.length xwc]) 32::osl 35 2 (.slice twp ts.length twc) ts.length (ts.flatMap trieC)::osl 53 1 (.slice xwp zs.length xwc) zs.length (zs.flatMap pxC)::XA xb mb x::exsA mb zs::L):=h
 refine bn0 Tryz.func97 Tryz.ntmps97 h fun w h=>?_
 refine j000 (done_any _ _ _ h.to) fun w h=>?_
 refine qc h (fun hd1 w h=>?_) fun hd1 w h=>?_
 have hd2 : x.e.done=false:=by simpa using hd1
 refine go h fun w h=>?_
 refine sf (bu [.pointer (some ⟨xb,0,none⟩)] h Slc.h Ss.h rfl (by kernel_rfl) rfl (by decide) (by decide)) ?_
 rintro _ w ⟨b3,rfl,h⟩
 refine go h fun w h=>?_
 refine sf (ap h sl_30 rfl ss_53 rfl (by decide) rfl rfl (fun _=>u4) (h.ro a0) (by simp [Value.oneCell']) rfl (join_rows (enc:=pxC) _ (xb,x.e)) (by unfold maxLen; omega) (by omega))<|?_
 rintro _ w ⟨p4,c5,rfl,h⟩
 refine st (nc rfl rfl)<|st (fa fo_32_3 rfl)<|?_
 refine sf (so h rfl rfl rfl sz_30 rfl (.s (.s (.s (.r .d)))) u2)<|?_
 rintro _ w h
 refine xe<|?_
 refine go h fun w h=>?_
 refine rn (res0 rfl) ?_
 rw [show keepZ zs xb x.e=zs ++ [(xb,x.e)] from if_neg (by rw [hd2]; decide),show keepT ts x.e=ts from if_neg (by rw [hd2]; simp)]
 have h:=SH.exAdd (h.drop.fr (.c r0 (.c r3 (.c r0 (.c r0 (.c r0 .n))))))
 refine ⟨rfl,SH.wi ⟨twp,twc,p4,c5⟩ ?_⟩
 unfold wldL; dsimp only; rw [List.length_append,List.length_singleton]
 exact h.fr (.c r2 (.c r2 (.c r2 .n)))
 have hd6 : x.e.done=true:=by simpa using hd1
 refine go h fun w h=>?_
 refine j000 (result_any _ _ _ h.to) fun w h=>?_
 refine jA h fun b7 w h=>?_
 refine qg h (fun hd8 w h=>?_) fun hd8 w h=>?_
 have hg9:=of_decide_eq_true hd8
 refine go h fun w h=>?_
 refine qc h (fun hd10 w h=>?_) fun hd10 w h=>?_
 have hg11:=of_decide_eq_true hd10
 refine go h fun w h=>?_
 refine drG (F:=[bl b ([.pointer (some ⟨mb,0,none⟩),.int .u64 ((mask : Nat) : Int),.slice twp ts.length twc,.slice xwp zs.length xwc]) 32,bl b7 (resV x.e.result) 43]) [(true,[1,3,5,7,9,11,13,14,16,19,21]),(false,[22])] (by kernel_rfl) h (fun w h=>(hC (h.at_ a2) (hC (h.at_ a0) hN))) fun w h=>go h fun w h=>?_
 refine tk (fun W H=>ldr (cs:=[.int .i64 x.e.result.trie.root,.bool x.e.result.trie.readOnly]) rfl (rows_of (H.b a1) 6 rfl) Row.h)<|go h fun w h=>?_
 refine ff (bu [.int .i64 x.e.result.trie.root,.bool x.e.result.trie.readOnly] h Slc.h Ss.h rfl (by kernel_rfl) rfl (by decide) (by decide)) ?_
 rintro _ w ⟨b12,rfl,h⟩
 refine gz h fun w h=>?_
 refine ff (ap h sl_29 rfl ss_35 rfl (by decide) rfl rfl (fun _=>u4) (h.ro a0) (by simp [Value.oneCell']) rfl (join_rows (enc:=trieC) _ x.e.result.trie) (by unfold maxLen; omega) (by omega))<|?_
 rintro _ w ⟨p13,c14,rfl,h⟩
 refine ⟨(hC (h.at_ a3) (hC (h.at_ a1) hN)),?_⟩
 refine tk (fun W H=>nc rfl rfl)<|tk (fun W H=>fa fo_32_2 rfl)<|xgF<|?_
 refine ff (so h rfl rfl rfl sz_29 rfl (.s (.s (.r .d))) u3)<|?_
 rintro _ w h
 refine ⟨trivial,?_⟩
 refine xz<|?_
 refine go h fun w h=>?_
 refine rn (res0 rfl) ?_
 rw [show keepZ zs xb x.e=zs from if_pos hd6,show keepT ts x.e=ts ++ [x.e.result.trie] from if_pos ⟨hd6,by omega,by omega⟩]
 have h:=SH.exDrop (h.drop.drop.fr (.c r0 (.c r3 (.c r0 (.c r0 (.c r0 .n))))))
 refine ⟨rfl,SH.wi ⟨p13,c14,xwp,xwc⟩ ?_⟩
 unfold wldL; dsimp only; rw [List.length_append,List.length_singleton]
 exact h.to.fr (.c r2 (.c r2 (.c r2 .n)))
 have hg15:=of_decide_eq_false hd10
 refine go h fun w h=>?_
 refine rn (res0 rfl) ?_
 rw [show keepZ zs xb x.e=zs from if_pos hd6,show keepT ts x.e=ts from if_neg (fun hz=>by have:=hz.2; omega)]
 have h:=SH.exDrop (h.drop.fr (.c r0 (.c r3 (.c r0 (.c r0 (.c r0 .n))))))
 refine ⟨rfl,SH.wi ⟨twp,twc,xwp,xwc⟩ ?_⟩
 exact h.to.fr (.c r2 (.c r2 (.c r2 .n)))
 have hg16:=of_decide_eq_false hd8
 refine go h fun w h=>?_
 refine rn (res0 rfl) ?_
 rw [show keepZ zs xb x.e=zs from if_pos hd6,show keepT ts x.e=ts from if_neg (fun hz=>by have:=hz.2; omega)]
 have h:=SH.exDrop (h.drop.fr (.c r0 (.c r3 (.c r0 (.c r0 (.c r0 .n))))))
 refine ⟨rfl,SH.wi ⟨twp,twc,xwp,xwc⟩ ?_⟩
 exact h.to.fr (.c r2 (.c r2 (.c r2 .n)))
end Go.Proofs.YtmliojdkmfhmmaaGreat
end
