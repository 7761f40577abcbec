/- Parts of a proof: Tj, Tk, Ayi, Lo. -/
import Derived.Test.YtmliojdkmfhmmaaGreatW39
import Derived.Test.YtmliojdkmfhmmaaGreatW26
import Derived.Test.YtmliojdkmfhmmaaGreatW16
import Derived.Test.YtmliojdkmfhmmaaGreatW13
import Derived.Test.YtmliojdkmfhmmaaGreatW14
import Derived.Test.YtmliojdkmfhmmaaGreatW12
import Derived.Test.YtmliojdkmfhmmaaGreatW28
import Derived.Test.YtmliojdkmfhmmaaGreatW21
import Derived.Test.YtmliojdkmfhmmaaGreatW30
import Derived.Test.YtmliojdkmfhmmaaGreatW09
import Derived.Test.YtmliojdkmfhmmaaGreatW31
import Derived.Test.YtmliojdkmfhmmaaGreatW27
set_option linter.unusedVariables false
set_option linter.unusedSimpArgs false
set_option maxRecDepth 100000
set_option maxHeartbeats 4000000
section
namespace Go.Proofs.YtmliojdkmfhmmaaGreat
open Go.RowKit Go.E
attribute [local irreducible] Go.E.wpL Go.E.wpS
theorem px_set {b : Nat} {e : Ct.Ex} : ∀ {zs : List (Nat × Ct.Ex)} {j : Nat} (hj : j<zs.length),zs[j].1=b→(zs.set j (b,e)).flatMap pxC=zs.flatMap pxC
 | z::zs,0,_,hb=>by
  have hb : z.1=b:=hb
  subst hb; rfl
 | z::zs,j+1,h,hb=>by
  have ih:=px_set (e:=e) (zs:=zs) (j:=j) (by simpa using h) (by simpa using hb)
  show pxC z ++ (zs.set j (b,e)).flatMap pxC=pxC z ++ zs.flatMap pxC
  rw [ih]
variable {B w : World} {L : List As}
theorem wstep_any (mb k j : Nat) (s : Ct.St) (ts : List Ct.Trie) (zs : List (Nat × Ct.Ex)) (g : Ct.Ga) (h : SH B w (exsA mb zs::memA mb s::L)) (hW : Ct.Wld k g s ts zs) (hk : k≤40) (hj : j<zs.length) :
  Calls Tryz.prog 48 #[.pointer (some ⟨(zs.getD j (0,{})).1,0,none⟩)] w fun e w'=>∃ g' s' zs',Ct.Wld (k+1) g' s' ts zs'∧zs'.length=zs.length∧zs'.flatMap pxC=zs.flatMap pxC∧e=.returned (.tuple #[])∧SH B w' (exsA mb zs'::memA mb s'::L):=by
 have hg : zs.getD j (0,{})=zs[j]:=by rw [List.getD_eq_getElem?_getD,List.getElem?_eq_getElem hj]; rfl
 rw [hg]
 have h:=SH.exGet hj h
 have hr:=hW.ready (i:=0) hk (List.getElem_mem hj)
 cases hd : zs[j].2.done with
 | true =>
  refine (step_d zs[j].1 mb ⟨zs[j].2,s⟩ h hd).mono ?_
  rintro _ w ⟨rfl,h⟩
  have h:=SH.exPut hj h
  rw [show zs.set j (zs[j].1,zs[j].2)=zs from List.set_getElem_self hj] at h
  exact ⟨g,s,zs,hW.mono (by omega),rfl,rfl,rfl,h⟩
 | false =>
  refine (step_n zs[j].1 mb ⟨zs[j].2,s⟩ Ct.FU h hd hr.1 hr.2.1 (by decide) hr.2.2.1 hr.2.2.2.1 hr.2.2.2.2.1 hr.2.2.2.2.2).mono ?_
  rintro _ w ⟨rfl,h,k1⟩
  obtain ⟨g',hW'⟩:=hW.step hk hj hd k1
  exact ⟨g',_,_,hW',List.length_set,px_set hj rfl,rfl,SH.exPut hj h⟩
end Go.Proofs.YtmliojdkmfhmmaaGreat
end
section
namespace Go.Proofs.YtmliojdkmfhmmaaGreat
open Go.RowKit Go.E
attribute [local irreducible] Go.E.wpL Go.E.wpS
def kindl : List Int:=[8,8,8,9,9,10,11,12,7,8]
theorem kind_ok (j : Nat) (h : j<10) : 7≤kindl.getD j 0∧kindl.getD j 0≤12:=(by decide : ∀ x,x ∈ kindl→7≤x∧x≤12) _ (getD_mem h)
variable {B w : World} {L : List As}
theorem worlds_any (l : List Int) (p : Option Addr) (c : Nat) (h : SH B w (rsl 1 (.slice p l.length c) l.length (l.map (Value.int .i64))::L)) :
  Calls Tryz.prog 11 #[.slice p l.length c] w fun e w'=>∃ b mb mask g s ts zs,mask<18446744073709551616∧Ct.Wld 36 g s ts zs∧e=.returned (.pointer (some ⟨b,0,none⟩))∧SH B w' (wldA b mb mask ts zs::exsA mb zs::memA mb s::L):=by
 refine bgn (args:=[_]) Tryz.func11 rfl Tryz.ntmps11 rfl ?_
 refine sq<|rg<|st (sg rfl)<|xe<|nx<|sq<|rg<|st (mv rfl)<|cl (ca en_14 rfl) ((new_e l p c (h.fr (.c r0 .n))).mono ?_)
 rintro _ w ⟨tb1,rfl,h⟩
 refine ⟨_,rfl,?_⟩
 refine st (sg rfl)<|xe<|nx<|sq<|rg<|cl (ca en_43 rfl) ((new_any (h.fr .n)).mono ?_)
 rintro _ w ⟨mb,rfl,h⟩
 refine ⟨_,rfl,?_⟩
 refine st (mv rfl)<|cl (ca en_44 rfl) ((mask_e tb1 l (h.fr (.c r1 .n))).mono ?_)
 rintro _ w ⟨mk2,hm3,rfl,h⟩
 refine ⟨_,rfl,?_⟩
 refine st (bd [.pointer (some ⟨mb,0,none⟩),.int .u64 ((mk2 : Nat) : Int),.slice none 0 0,.slice none 0 0] bd_32 rfl (by kernel_rfl))<|sf (bx h rfl rfl)<|?_
 rintro _ w ⟨b4,rfl,h⟩
 refine st (sg rfl)<|xe<|nx<|sq<|rg<|st (mv rfl)<|st (mv rfl)<|st (nc rfl rfl)<|st (fa fo_32_0 rfl)<|st (ld one_27 rfl (h.c a0 rfl))<|cl (ca en_39 rfl) ((create_any mb {} (h.fr (.c r2 .n)) (by decide)).mono ?_)
 rintro _ w ⟨rfl,h⟩
 refine ⟨_,rfl,?_⟩
 refine sf (bu (trieC (Ct.createS {}).2) h sl_29 ss_35 rfl (by kernel_rfl) rfl (by decide) (by decide))<|?_
 rintro _ w ⟨b5,rfl,h⟩
 refine st (nc rfl rfl)<|st (fa fo_32_2 rfl)<|sf (so h rfl rfl rfl sz_29 rfl (.s (.s (.r .d))) u2)<|?_
 rintro _ w h
 refine xe<|nx<|sq<|sq<|?_
 have h:=(h.fr (.c r2 (.c r0 (.c r0 (.c r0 .n)))))
 have h:=SH.nil 53 1 (SH.exNil (mb:=mb) h)
 have h:=h.fr (.c r2 (.c r2 (.c r0 (.c r0 .n))))
 have h : SH B w (wldA b4 mb mk2 [(Ct.createS {}).2] []::exsA mb []::memA mb (Ct.createS {}).1::tapE tb1 l::L):=SH.wi (ts:=[(Ct.createS {}).2]) (zs:=[]) ⟨some ⟨b5,0,none⟩,1,none,0⟩ h
 obtain ⟨g0,hW0⟩:=Ct.wld0
 refine rg<|st (sg rfl)<|xe<|nx<|bk<|?_
 refine lp (α:=Nat × Ct.Ga × Ct.St × List Ct.Trie × List (Nat × Ct.Ex)) (fun ρ=>(.c 3 (.pointer (some ⟨tb1,0,none⟩)) (.c 4 (.pointer (some ⟨b4,0,none⟩)) (.c 5 (.int .i64 ((ρ.1 : Nat) : Int)) .n)))) (fun ρ w=>SH B w (wldA b4 mb mk2 ρ.2.2.2.1 ρ.2.2.2.2::exsA mb ρ.2.2.2.2::memA mb ρ.2.2.1::tapE tb1 l::L)∧(Ct.Wld (2 * ρ.1) ρ.2.1 ρ.2.2.1 ρ.2.2.2.1 ρ.2.2.2.2)∧(ρ.1≤18)) (fun ρ=>18 - ρ.1) (0,g0,(Ct.createS {}).1,[(Ct.createS {}).2],[]) ⟨rfl,rfl,rfl,trivial⟩ ⟨h,hW0,(Nat.zero_le _)⟩ ?_
 rintro ⟨i,g,s,ts,zs⟩ w ⟨h,hW,hi⟩
 dsimp only at *
 refine sq<|sq<|rg<|st (mv rfl)<|st (bi rfl rfl rfl)<|st (mv rfl)<|?_
 rcases Bool.eq_false_or_eq_true (decide ((((i : Nat) : Int) : Int)<18)) with hd6 | hd6
 have hg7:=of_decide_eq_true hd6
 refine gT rfl rfl hd6<|st (mv rfl)<|gT rfl rfl hd6<|cl (ca en_45 rfl) ((left_e tb1 l (h.fr (.c r3 .n))).mono ?_)
 rintro _ w ⟨r8,rfl,h⟩
 refine ⟨_,rfl,?_⟩
 refine st (pT rfl hd6 rfl)<|xe<|nx<|?_
 rcases Bool.eq_false_or_eq_true r8 with hd9 | hd9
 refine ct rfl hd9<|sk<|nx<|sq<|bk<|sq<|rg<|sf (bu [.int .i64 8,.int .i64 8,.int .i64 8,.int .i64 9,.int .i64 9,.int .i64 10,.int .i64 11,.int .i64 12,.int .i64 7,.int .i64 8] h sl_22 ss_3 rfl (by kernel_rfl) rfl (by decide) (by decide))<|?_
 rintro _ w ⟨b10,rfl,h⟩
 refine st (mv rfl)<|?_
 have h : SH B w (osl 3 1 (.slice (some ⟨b10,0,none⟩) 10 10) 10 (kindl.map (Value.int .i64))::tapE tb1 l::wldA b4 mb mk2 ts zs::exsA mb zs::memA mb s::L):=h
 refine cl (ca en_46 rfl) ((next_e tb1 l 10 (h.fr (.c r1 .n)) (by omega) (by omega)).mono ?_)
 rintro _ w ⟨j11,hj12,rfl,h⟩
 refine ⟨_,rfl,?_⟩
 refine st (ix (j:=j11) sl_22 sz_3 rfl rfl (by first | omega | (show _<10; omega)))<|st (ld one_3 rfl ((h.ro a1).i (by first | omega | (show _<10; omega))))<|st (sg rfl)<|xe<|nx<|?_
 refine sm (fun e w=>∃ kd : Int,Sub 100 e (.c 3 (.pointer (some ⟨tb1,0,none⟩)) (.c 4 (.pointer (some ⟨b4,0,none⟩)) (.c 5 (.int .i64 ((i : Nat) : Int)) (.c 6 (.int .i64 kd) (.c 28 (.pointer (some ⟨tb1,0,none⟩)) (.c 29 (.bool r8) .n))))))∧SH B w (wldA b4 mb mk2 ts zs::exsA mb zs::memA mb s::tapE tb1 l::L)∧(7≤kd∧kd≤12)) ?_ ?_
 refine sq<|rg<|st (mv rfl)<|st (bi rfl rfl rfl)<|st (mv rfl)<|?_
 rcases Bool.eq_false_or_eq_true ((kindl.getD j11 0 : Int)==12) with hd13 | hd13
 have hg14:=eq_of_beq hd13
 refine gT rfl rfl hd13<|st (mv rfl)<|gT rfl rfl hd13<|?_
 refine cl (ca en_46 rfl) ((next_e tb1 l 3 (h.fr (.c r0 .n)) (by omega) (by omega)).mono ?_)
 rintro _ w ⟨j15,hj16,rfl,h⟩
 refine ⟨_,rfl,?_⟩
 refine gT rfl rfl hd13<|st (bi rfl rfl rfl)<|st (pT rfl hd13 rfl)<|xe<|nx<|?_
 rcases Bool.eq_false_or_eq_true (decide ((((j15 : Nat) : Int) : Int)>0)) with hd17 | hd17
 have hg18:=of_decide_eq_true hd17
 refine ct rfl hd17<|rg<|st (sg rfl)<|xe<|nx<|?_
 exact ⟨8,⟨rfl,rfl,rfl,rfl,rfl,rfl,trivial⟩,((h.fr (.c r1 .n)).drop.fr (.c r1 (.c r1 (.c r1 (.c r0 .n))))),(by decide)⟩
 have hg19:=of_decide_eq_false hd17
 refine cf rfl hd17<|sk<|nx<|?_
 exact ⟨kindl.getD j11 0,⟨rfl,rfl,rfl,rfl,rfl,rfl,trivial⟩,((h.fr (.c r1 .n)).drop.fr (.c r1 (.c r1 (.c r1 (.c r0 .n))))),(by have:=kind_ok j11 (by omega); have hz : kindl.getD j11 0=kindl.getD j11 0:=rfl; omega)⟩
 have hg20:=ne_of_beq_false hd13
 refine gF rfl rfl hd13<|gF rfl rfl hd13<|gF rfl rfl hd13<|st (pF rfl hd13 rfl)<|xe<|nx<|cF rfl<|sk<|nx<|?_
 exact ⟨kindl.getD j11 0,⟨rfl,rfl,rfl,rfl,rfl,rfl,trivial⟩,((h.fr (.c r1 .n)).drop.fr (.c r1 (.c r1 (.c r1 (.c r0 .n))))),(by have:=kind_ok j11 (by omega); have hz : kindl.getD j11 0=kindl.getD j11 0:=rfl; omega)⟩
 rintro e w ⟨kd,hE,h,hkd⟩
 refine C.sub hE ?_
 clear hE e
 refine sq<|rg<|st (mv rfl)<|st (mv rfl)<|st (mv rfl)<|cl (ca en_13 rfl) ((wcall_any b4 mb tb1 mk2 ts zs l kd (h.fr (.c r0 (.c r2 .n))) hW.some hW.five (by omega) (by omega) hW.first).mono ?_)
 rintro _ w ⟨c,hck,hcm,hcy,hct,hcr,rfl,h⟩
 have hco:=hW.callOk (c:=c) (by omega) (by omega) hct hcr
 have hcm2 : c.mask<18446744073709551616:=by omega
 refine ⟨_,rfl,?_⟩
 refine sf (al h zc_45)<|?_
 rintro _ w ⟨b21,rfl,h⟩
 refine sf (so h rfl rfl rfl sz_45 rfl (.r (.r (.r (.r (.r (.r (.r (.r (.r (.r (.r (.r (.r (.r (.r (.r (.r (.r (.r (.r (.r (.r (.r (.r (.r .d))))))))))))))))))))))))) u0)<|?_
 rintro _ w h
 refine xe<|nx<|?_
 refine sm (fun e w=>∃ cb : Nat,∃ c2 : Ct.Call,Sub 100 e (.c 3 (.pointer (some ⟨tb1,0,none⟩)) (.c 4 (.pointer (some ⟨b4,0,none⟩)) (.c 5 (.int .i64 ((i : Nat) : Int)) (.c 7 (.pointer (some ⟨cb,0,none⟩)) (.c 28 (.pointer (some ⟨tb1,0,none⟩)) (.c 29 (.bool r8) .n))))))∧SH B w (bl cb ([.int .i64 c2.kind,.int .i64 c2.trie.root,.bool c2.trie.readOnly,.int .i64 c2.a,.int .i64 c2.b,.int .i64 c2.n,.int .i64 c2.index,.int .u64 ((c2.hash : Nat) : Int),.int .u64 ((c2.mask : Nat) : Int),.string c2.key,.int .u64 ((c2.value : Nat) : Int),.int .u64 ((c2.expect : Nat) : Int),.int .i64 c2.policy,.bool c2.only,.bool c2.walk.started,.slice none 0 0,.slice none 0 0,.int .i64 c2.answer.err,.bool c2.answer.found,.int .u64 ((c2.answer.value : Nat) : Int),.string c2.answer.key,.int .i64 c2.answer.count,.int .i64 c2.answer.ref,.int .i64 c2.answer.trie.root,.bool c2.answer.trie.readOnly]) 45::wldA b4 mb mk2 ts zs::exsA mb zs::memA mb s::tapE tb1 l::L)∧(Ct.CallOk g c2∧c2.mask<18446744073709551616∧c2.key.size≤8)) ?_ ?_
 refine sq<|rg<|st (mv rfl)<|st (bi rfl rfl rfl)<|st (mv rfl)<|?_
 rcases Bool.eq_false_or_eq_true ((kd : Int)==8) with hd22 | hd22
 have hg23:=eq_of_beq hd22
 refine gT rfl rfl hd22<|st (mv rfl)<|gT rfl rfl hd22<|?_
 refine cl (ca en_46 rfl) ((next_e tb1 l 3 (h.fr (.c r2 .n)) (by omega) (by omega)).mono ?_)
 rintro _ w ⟨j24,hj25,rfl,h⟩
 refine ⟨_,rfl,?_⟩
 refine gT rfl rfl hd22<|st (bi rfl rfl rfl)<|st (pT rfl hd22 rfl)<|xe<|nx<|?_
 rcases Bool.eq_false_or_eq_true (decide ((((j24 : Nat) : Int) : Int)>0)) with hd26 | hd26
 have hg27:=of_decide_eq_true hd26
 refine ct rfl hd26<|rg<|st (fa fo_45_11 rfl)<|sf (so h rfl rfl rfl sz_3 rfl (.s (.s (.s (.s (.s (.s (.s (.s (.s (.s (.s (.s (.r .d))))))))))))) u1)<|?_
 rintro _ w h
 refine xe<|nx<|?_
 exact ⟨b21,({ c with policy:=0 } : Ct.Call),⟨rfl,rfl,rfl,rfl,rfl,rfl,trivial⟩,(h.fr (.c r1 (.c r1 (.c r1 (.c r1 (.c r0 .n)))))),⟨⟨hco.lo,hco.hi,hco.trie,hco.ro⟩,hcm2,hcy⟩⟩
 have hg28:=of_decide_eq_false hd26
 refine cf rfl hd26<|sk<|nx<|?_
 exact ⟨b21,c,⟨rfl,rfl,rfl,rfl,rfl,rfl,trivial⟩,(h.fr (.c r1 (.c r1 (.c r1 (.c r1 (.c r0 .n)))))),⟨⟨hco.lo,hco.hi,hco.trie,hco.ro⟩,hcm2,hcy⟩⟩
 have hg29:=ne_of_beq_false hd22
 refine gF rfl rfl hd22<|gF rfl rfl hd22<|gF rfl rfl hd22<|st (pF rfl hd22 rfl)<|xe<|nx<|cF rfl<|sk<|nx<|?_
 exact ⟨b21,c,⟨rfl,rfl,rfl,rfl,rfl,rfl,trivial⟩,(h.fr (.c r0 (.c r0 (.c r1 (.c r1 (.c r0 .n)))))),⟨⟨hco.lo,hco.hi,hco.trie,hco.ro⟩,hcm2,hcy⟩⟩
 rintro e w ⟨cb,c2,hE,h,hc2⟩
 refine C.sub hE ?_
 clear hE e
 refine sq<|rg<|st (sg rfl)<|xe<|nx<|?_
 refine sm (fun e w=>∃ n : Nat,Sub 100 e (.c 3 (.pointer (some ⟨tb1,0,none⟩)) (.c 4 (.pointer (some ⟨b4,0,none⟩)) (.c 5 (.int .i64 ((i : Nat) : Int)) (.c 7 (.pointer (some ⟨cb,0,none⟩)) (.c 8 (.int .i64 ((n : Nat) : Int)) (.c 28 (.pointer (some ⟨tb1,0,none⟩)) (.c 29 (.bool r8) .n)))))))∧SH B w (bl cb ([.int .i64 c2.kind,.int .i64 c2.trie.root,.bool c2.trie.readOnly,.int .i64 c2.a,.int .i64 c2.b,.int .i64 c2.n,.int .i64 c2.index,.int .u64 ((c2.hash : Nat) : Int),.int .u64 ((c2.mask : Nat) : Int),.string c2.key,.int .u64 ((c2.value : Nat) : Int),.int .u64 ((c2.expect : Nat) : Int),.int .i64 c2.policy,.bool c2.only,.bool c2.walk.started,.slice none 0 0,.slice none 0 0,.int .i64 c2.answer.err,.bool c2.answer.found,.int .u64 ((c2.answer.value : Nat) : Int),.string c2.answer.key,.int .i64 c2.answer.count,.int .i64 c2.answer.ref,.int .i64 c2.answer.trie.root,.bool c2.answer.trie.readOnly]) 45::wldA b4 mb mk2 ts zs::exsA mb zs::memA mb s::tapE tb1 l::L)∧(n≤1048576)) ?_ ?_
 refine sq<|?_
 have h:=h.fr (.c r1 .n)
 obtain ⟨⟨twp30,twc31,xwp32,xwc33⟩,h⟩:=h.wo
 have h : SH B w (bl b4 ([.pointer (some ⟨mb,0,none⟩),.int .u64 ((mk2 : Nat) : Int),.slice twp30 ts.length twc31,.slice xwp32 zs.length xwc33]) 32::osl 35 2 (.slice twp30 ts.length twc31) ts.length (ts.flatMap trieC)::osl 53 1 (.slice xwp32 zs.length xwc33) zs.length (zs.flatMap pxC)::bl cb ([.int .i64 c2.kind,.int .i64 c2.trie.root,.bool c2.trie.readOnly,.int .i64 c2.a,.int .i64 c2.b,.int .i64 c2.n,.int .i64 c2.index,.int .u64 ((c2.hash : Nat) : Int),.int .u64 ((c2.mask : Nat) : Int),.string c2.key,.int .u64 ((c2.value : Nat) : Int),.int .u64 ((c2.expect : Nat) : Int),.int .i64 c2.policy,.bool c2.only,.bool c2.walk.started,.slice none 0 0,.slice none 0 0,.int .i64 c2.answer.err,.bool c2.answer.found,.int .u64 ((c2.answer.value : Nat) : Int),.string c2.answer.key,.int .i64 c2.answer.count,.int .i64 c2.answer.ref,.int .i64 c2.answer.trie.root,.bool c2.answer.trie.readOnly]) 45::exsA mb zs::memA mb s::tapE tb1 l::L):=h
 refine rg<|st (mv rfl)<|st (nc rfl rfl)<|st (fa fo_32_3 rfl)<|st (ld one_30 rfl (h.c a0 rfl))<|st (ln sl_30 rfl rfl)<|st (bi rfl rfl rfl)<|st (mv rfl)<|?_
 rcases Bool.eq_false_or_eq_true (decide ((((zs.length : Nat) : Int) : Int)<3)) with hd34 | hd34
 have hg35:=of_decide_eq_true hd34
 refine gT rfl rfl hd34<|st (mv rfl)<|gT rfl rfl hd34<|?_
 refine cl (ca en_46 rfl) ((next_e tb1 l 4 (h.fr (.c r6 .n)) (by omega) (by omega)).mono ?_)
 rintro _ w ⟨j36,hj37,rfl,h⟩
 refine ⟨_,rfl,?_⟩
 refine gT rfl rfl hd34<|st (bi rfl rfl rfl)<|st (pT rfl hd34 rfl)<|xe<|nx<|?_
 rcases Bool.eq_false_or_eq_true ((((j36 : Nat) : Int) : Int)==0) with hd38 | hd38
 have hg39:=eq_of_beq hd38
 refine ct rfl hd38<|rg<|st (mv rfl)<|?_
 refine cl (ca en_46 rfl) ((next_e tb1 l 16 (h.fr (.c r0 .n)) (by omega) (by omega)).mono ?_)
 rintro _ w ⟨j40,hj41,rfl,h⟩
 refine ⟨_,rfl,?_⟩
 refine st (sg rfl)<|xe<|nx<|?_
 have h:=h.fr (.c r1 (.c r1 (.c r1 .n)))
 have h : SH B w (wldA b4 mb mk2 ts zs::tapE tb1 l::bl cb ([.int .i64 c2.kind,.int .i64 c2.trie.root,.bool c2.trie.readOnly,.int .i64 c2.a,.int .i64 c2.b,.int .i64 c2.n,.int .i64 c2.index,.int .u64 ((c2.hash : Nat) : Int),.int .u64 ((c2.mask : Nat) : Int),.string c2.key,.int .u64 ((c2.value : Nat) : Int),.int .u64 ((c2.expect : Nat) : Int),.int .i64 c2.policy,.bool c2.only,.bool c2.walk.started,.slice none 0 0,.slice none 0 0,.int .i64 c2.answer.err,.bool c2.answer.found,.int .u64 ((c2.answer.value : Nat) : Int),.string c2.answer.key,.int .i64 c2.answer.count,.int .i64 c2.answer.ref,.int .i64 c2.answer.trie.root,.bool c2.answer.trie.readOnly]) 45::exsA mb zs::memA mb s::L):=SH.wi ⟨twp30,twc31,xwp32,xwc33⟩ h
 exact ⟨j40,⟨rfl,rfl,rfl,rfl,rfl,rfl,rfl,trivial⟩,(h.fr (.c r2 (.c r0 (.c r1 (.c r1 (.c r0 .n)))))),(by omega)⟩
 have hg42:=ne_of_beq_false hd38
 refine cf rfl hd38<|sk<|nx<|?_
 have h:=h.fr (.c r1 (.c r1 (.c r1 .n)))
 have h : SH B w (wldA b4 mb mk2 ts zs::tapE tb1 l::bl cb ([.int .i64 c2.kind,.int .i64 c2.trie.root,.bool c2.trie.readOnly,.int .i64 c2.a,.int .i64 c2.b,.int .i64 c2.n,.int .i64 c2.index,.int .u64 ((c2.hash : Nat) : Int),.int .u64 ((c2.mask : Nat) : Int),.string c2.key,.int .u64 ((c2.value : Nat) : Int),.int .u64 ((c2.expect : Nat) : Int),.int .i64 c2.policy,.bool c2.only,.bool c2.walk.started,.slice none 0 0,.slice none 0 0,.int .i64 c2.answer.err,.bool c2.answer.found,.int .u64 ((c2.answer.value : Nat) : Int),.string c2.answer.key,.int .i64 c2.answer.count,.int .i64 c2.answer.ref,.int .i64 c2.answer.trie.root,.bool c2.answer.trie.readOnly]) 45::exsA mb zs::memA mb s::L):=SH.wi ⟨twp30,twc31,xwp32,xwc33⟩ h
 exact ⟨1048576,⟨rfl,rfl,rfl,rfl,rfl,rfl,rfl,trivial⟩,(h.fr (.c r2 (.c r0 (.c r1 (.c r1 (.c r0 .n)))))),(by omega)⟩
 have hg43:=of_decide_eq_false hd34
 refine gF rfl rfl hd34<|gF rfl rfl hd34<|gF rfl rfl hd34<|st (pF rfl hd34 rfl)<|xe<|nx<|cF rfl<|sk<|nx<|?_
 have h:=h.fr (.c r0 (.c r0 (.c r0 .n)))
 have h : SH B w (wldA b4 mb mk2 ts zs::bl cb ([.int .i64 c2.kind,.int .i64 c2.trie.root,.bool c2.trie.readOnly,.int .i64 c2.a,.int .i64 c2.b,.int .i64 c2.n,.int .i64 c2.index,.int .u64 ((c2.hash : Nat) : Int),.int .u64 ((c2.mask : Nat) : Int),.string c2.key,.int .u64 ((c2.value : Nat) : Int),.int .u64 ((c2.expect : Nat) : Int),.int .i64 c2.policy,.bool c2.only,.bool c2.walk.started,.slice none 0 0,.slice none 0 0,.int .i64 c2.answer.err,.bool c2.answer.found,.int .u64 ((c2.answer.value : Nat) : Int),.string c2.answer.key,.int .i64 c2.answer.count,.int .i64 c2.answer.ref,.int .i64 c2.answer.trie.root,.bool c2.answer.trie.readOnly]) 45::exsA mb zs::memA mb s::tapE tb1 l::L):=SH.wi ⟨twp30,twc31,xwp32,xwc33⟩ h
 exact ⟨1048576,⟨rfl,rfl,rfl,rfl,rfl,rfl,rfl,trivial⟩,(h.fr (.c r1 (.c r0 (.c r0 (.c r0 (.c r0 .n)))))),(by omega)⟩
 rintro e w ⟨n,hE,h,hn⟩
 refine C.sub hE ?_
 clear hE e
 refine sq<|rg<|st (mv rfl)<|st (ldr rfl (rows_all (h.b a0)) row_45)<|st (mv rfl)<|cl (ca en_47 rfl) ((wrun_any b4 mb mk2 (2 * i) n s ts zs g c2 (h.fr (.c r1 (.c r1 (.c r1 .n)))) hW (by omega) hc2.1 hc2.2.1 (by omega) hn).mono ?_)
 rintro _ w ⟨g1,s1,ts1,zs1,hW1,rfl,h⟩
 have hfew1:=hW1.few
 refine ⟨_,rfl,?_⟩
 refine xe<|nx<|sq<|?_
 have h:=h.fr (.c r0 .n)
 obtain ⟨⟨twp44,twc45,xwp46,xwc47⟩,h⟩:=h.wo
 have h : SH B w (bl b4 ([.pointer (some ⟨mb,0,none⟩),.int .u64 ((mk2 : Nat) : Int),.slice twp44 ts1.length twc45,.slice xwp46 zs1.length xwc47]) 32::osl 35 2 (.slice twp44 ts1.length twc45) ts1.length (ts1.flatMap trieC)::osl 53 1 (.slice xwp46 zs1.length xwc47) zs1.length (zs1.flatMap pxC)::exsA mb zs1::memA mb s1::bl cb ([.int .i64 c2.kind,.int .i64 c2.trie.root,.bool c2.trie.readOnly,.int .i64 c2.a,.int .i64 c2.b,.int .i64 c2.n,.int .i64 c2.index,.int .u64 ((c2.hash : Nat) : Int),.int .u64 ((c2.mask : Nat) : Int),.string c2.key,.int .u64 ((c2.value : Nat) : Int),.int .u64 ((c2.expect : Nat) : Int),.int .i64 c2.policy,.bool c2.only,.bool c2.walk.started,.slice none 0 0,.slice none 0 0,.int .i64 c2.answer.err,.bool c2.answer.found,.int .u64 ((c2.answer.value : Nat) : Int),.string c2.answer.key,.int .i64 c2.answer.count,.int .i64 c2.answer.ref,.int .i64 c2.answer.trie.root,.bool c2.answer.trie.readOnly]) 45::tapE tb1 l::L):=h
 refine rg<|st (mv rfl)<|st (nc rfl rfl)<|st (fa fo_32_3 rfl)<|st (ld one_30 rfl (h.c a0 rfl))<|st (ln sl_30 rfl rfl)<|st (bi rfl rfl rfl)<|st (mv rfl)<|?_
 rcases Bool.eq_false_or_eq_true (decide ((((zs1.length : Nat) : Int) : Int)>0)) with hd48 | hd48
 have hg49:=of_decide_eq_true hd48
 refine gT rfl rfl hd48<|st (mv rfl)<|gT rfl rfl hd48<|?_
 refine cl (ca en_46 rfl) ((next_e tb1 l 3 (h.fr (.c r6 .n)) (by omega) (by omega)).mono ?_)
 rintro _ w ⟨j50,hj51,rfl,h⟩
 refine ⟨_,rfl,?_⟩
 refine gT rfl rfl hd48<|st (bi rfl rfl rfl)<|st (pT rfl hd48 rfl)<|xe<|nx<|?_
 rcases Bool.eq_false_or_eq_true ((((j50 : Nat) : Int) : Int)==0) with hd52 | hd52
 have hg53:=eq_of_beq hd52
 refine ct rfl hd52<|?_
 obtain ⟨b54,rfl⟩:=h.fp a3 (by omega)
 refine drH [1,3,5,7,9,11,13,15,17,19,20,23,25,26] (by kernel_rfl) h (.c r1 (.c r2 .n)) fun w h=>tk (fun W H=>mv rfl)<|tk (fun W H=>nc rfl rfl)<|tk (fun W H=>fa fo_32_3 rfl)<|tk (fun W H=>ld one_30 rfl (H.c a0 rfl))<|tk (fun W H=>mv rfl)<|tk (fun W H=>mv rfl)<|tk (fun W H=>nc rfl rfl)<|tk (fun W H=>fa fo_32_3 rfl)<|tk (fun W H=>ld one_30 rfl (H.c a0 rfl))<|tk (fun W H=>ln sl_30 rfl rfl)<|?_
 refine cs (ca en_46 rfl) ((next_e tb1 l ((zs1.length : Nat) : Int) (h.fr (.c r0 .n)) (by omega) (by omega)).mono ?_)
 rintro _ w ⟨j55,hj56,rfl,h⟩
 refine ⟨_,rfl,h.hs (.c r1 (.c r2 .n)),?_⟩
 refine tk (fun W H=>ix (j:=j55) sl_30 sz_53 rfl rfl (by first | omega | (show _<10; omega)))<|tk (fun W H=>ld one_53 rfl ((H.ro a1).x pxC_len (by decide) (by first | omega | (show _<10; omega)) (0,{}) 0 _ rfl))<|cs (ca en_48 rfl) ((wstep_any mb (2 * i+1) j55 s1 ts1 zs1 g1 (h.fr (.c r4 (.c r4 .n))) hW1 (by omega) (by omega)).mono ?_)
 rintro _ w ⟨g2,s2,zs2,hW2,hz1,hz2,rfl,h⟩
 refine ⟨_,rfl,h.hs (.c r3 (.c r4 .n)),?_⟩
 refine xz<|bn<|nx<|rg<|st (mv rfl)<|st (bw rfl rfl (wadd (c:=((i+1 : Nat) : Int)) (by omega) (by omega) (by omega)))<|st (sg rfl)<|xe<|nx<|?_
 have h:=h.fr (.c r3 (.c r3 (.c r3 .n)))
 have h : SH B w (wldA b4 mb mk2 ts1 zs2::exsA mb zs2::memA mb s2::tapE tb1 l::bl cb ([.int .i64 c2.kind,.int .i64 c2.trie.root,.bool c2.trie.readOnly,.int .i64 c2.a,.int .i64 c2.b,.int .i64 c2.n,.int .i64 c2.index,.int .u64 ((c2.hash : Nat) : Int),.int .u64 ((c2.mask : Nat) : Int),.string c2.key,.int .u64 ((c2.value : Nat) : Int),.int .u64 ((c2.expect : Nat) : Int),.int .i64 c2.policy,.bool c2.only,.bool c2.walk.started,.slice none 0 0,.slice none 0 0,.int .i64 c2.answer.err,.bool c2.answer.found,.int .u64 ((c2.answer.value : Nat) : Int),.string c2.answer.key,.int .i64 c2.answer.count,.int .i64 c2.answer.ref,.int .i64 c2.answer.trie.root,.bool c2.answer.trie.readOnly]) 45::L):=SH.wi ⟨twp44,twc45,some ⟨b54,0,none⟩,xwc47⟩ (by unfold wldL; dsimp only; rw [hz1,hz2]; exact h)
 exact ⟨((i+1),g2,s2,ts1,zs2),⟨rfl,rfl,rfl,trivial⟩,⟨(h.fr (.c r4 .n)).drop,(hW2.mono (by omega)),by (try dsimp only); omega⟩,by (try dsimp only); omega⟩
 have hg57:=ne_of_beq_false hd52
 refine cf rfl hd52<|sk<|bn<|nx<|rg<|st (mv rfl)<|st (bw rfl rfl (wadd (c:=((i+1 : Nat) : Int)) (by omega) (by omega) (by omega)))<|st (sg rfl)<|xe<|nx<|?_
 have h:=h.fr (.c r1 (.c r1 (.c r1 .n)))
 have h : SH B w (wldA b4 mb mk2 ts1 zs1::tapE tb1 l::exsA mb zs1::memA mb s1::bl cb ([.int .i64 c2.kind,.int .i64 c2.trie.root,.bool c2.trie.readOnly,.int .i64 c2.a,.int .i64 c2.b,.int .i64 c2.n,.int .i64 c2.index,.int .u64 ((c2.hash : Nat) : Int),.int .u64 ((c2.mask : Nat) : Int),.string c2.key,.int .u64 ((c2.value : Nat) : Int),.int .u64 ((c2.expect : Nat) : Int),.int .i64 c2.policy,.bool c2.only,.bool c2.walk.started,.slice none 0 0,.slice none 0 0,.int .i64 c2.answer.err,.bool c2.answer.found,.int .u64 ((c2.answer.value : Nat) : Int),.string c2.answer.key,.int .i64 c2.answer.count,.int .i64 c2.answer.ref,.int .i64 c2.answer.trie.root,.bool c2.answer.trie.readOnly]) 45::L):=SH.wi ⟨twp44,twc45,xwp46,xwc47⟩ h
 exact ⟨((i+1),g1,s1,ts1,zs1),⟨rfl,rfl,rfl,trivial⟩,⟨((h.fr (.c r4 .n)).drop.fr (.c r0 (.c r1 (.c r1 (.c r0 .n))))),(hW1.mono (by omega)),by (try dsimp only); omega⟩,by (try dsimp only); omega⟩
 have hg58:=of_decide_eq_false hd48
 refine gF rfl rfl hd48<|gF rfl rfl hd48<|gF rfl rfl hd48<|st (pF rfl hd48 rfl)<|xe<|nx<|cF rfl<|sk<|bn<|nx<|rg<|st (mv rfl)<|st (bw rfl rfl (wadd (c:=((i+1 : Nat) : Int)) (by omega) (by omega) (by omega)))<|st (sg rfl)<|xe<|nx<|?_
 have h:=h.fr (.c r0 (.c r0 (.c r0 .n)))
 have h : SH B w (wldA b4 mb mk2 ts1 zs1::exsA mb zs1::memA mb s1::bl cb ([.int .i64 c2.kind,.int .i64 c2.trie.root,.bool c2.trie.readOnly,.int .i64 c2.a,.int .i64 c2.b,.int .i64 c2.n,.int .i64 c2.index,.int .u64 ((c2.hash : Nat) : Int),.int .u64 ((c2.mask : Nat) : Int),.string c2.key,.int .u64 ((c2.value : Nat) : Int),.int .u64 ((c2.expect : Nat) : Int),.int .i64 c2.policy,.bool c2.only,.bool c2.walk.started,.slice none 0 0,.slice none 0 0,.int .i64 c2.answer.err,.bool c2.answer.found,.int .u64 ((c2.answer.value : Nat) : Int),.string c2.answer.key,.int .i64 c2.answer.count,.int .i64 c2.answer.ref,.int .i64 c2.answer.trie.root,.bool c2.answer.trie.readOnly]) 45::tapE tb1 l::L):=SH.wi ⟨twp44,twc45,xwp46,xwc47⟩ h
 exact ⟨((i+1),g1,s1,ts1,zs1),⟨rfl,rfl,rfl,trivial⟩,⟨(h.fr (.c r3 .n)).drop,(hW1.mono (by omega)),by (try dsimp only); omega⟩,by (try dsimp only); omega⟩
 refine cf rfl hd9<|xt<|tx<|tx<|be<|nx<|sq<|rg<|st (mv rfl)<|st (sg rfl)<|xe<|nx<|rt<|?_
 refine rr (res1 Tryz.results11 rfl)<|?_
 exact ⟨_,_,_,g,s,ts,zs,(by omega),hW.mono (by omega),rfl,h.drop⟩
 have hg59:=of_decide_eq_false hd6
 refine gF rfl rfl hd6<|gF rfl rfl hd6<|st (pF rfl hd6 rfl)<|xe<|nx<|cF rfl<|xt<|tx<|tx<|be<|nx<|sq<|rg<|st (mv rfl)<|st (sg rfl)<|xe<|nx<|rt<|?_
 refine rr (res1 Tryz.results11 rfl)<|?_
 exact ⟨_,_,_,g,s,ts,zs,(by omega),hW.mono (by omega),rfl,(h.fr (.c r3 .n)).drop⟩
end Go.Proofs.YtmliojdkmfhmmaaGreat
end
section
namespace Go.Proofs.YtmliojdkmfhmmaaGreat
open Go.E
theorem eq_106 : eqf Tryz.prog 106 = some [.i .i64,.i .i64,.i .i64,.i .i64]:=by kernel_rfl
theorem eq_43 : eqf Tryz.prog 43 = some [.i .i64,.b,.i .u64,.s,.i .i64,.i .i64,.i .i64,.b]:=by kernel_rfl
theorem fo_56_0 : fo Tryz.prog 56 0=some 0:=by kernel_rfl
theorem fo_56_1 : fo Tryz.prog 56 1=some 1:=by kernel_rfl
theorem one_51 : oneC Tryz.prog 51 = true:=by kernel_rfl
theorem un_4 : Tryz.prog.underlying 4 = some (.bool):=by kernel_rfl
theorem un_51 : Tryz.prog.underlying 51 = some (.pointer 125):=by kernel_rfl
theorem en_52 : Ents Tryz.prog 52:=enG Tryz.func52 rfl rfl
end Go.Proofs.YtmliojdkmfhmmaaGreat
end
section
namespace Go.Proofs.YtmliojdkmfhmmaaGreat
attribute [local irreducible] Go.E.wpL Go.E.wpS Go.E.X Go.E.XS Go.E.C Go.E.thn Go.E.blk Go.E.fin Go.E.Y Go.E.U Go.E.F Go.E.Ca Go.E.Res Go.E.bl Go.E.rb Go.E.osl Go.E.rsl Go.E.ex Go.E.ce Go.E.pu Go.E.sK Go.E.gK Go.E.bK Go.E.zK Go.E.boxA Go.E.cloA Go.E.codeA clA cdA klA
open Go.RowKit Go.E
variable {B w : World} {L : List As}
theorem aeq_acc (a : Ct.Acc) : aeq (accV a) (accV a)=true:=by simp [aeq,veq,accV]
theorem aeq_res (r : Ct.Result) : aeq (resW r) (resW r)=true:=by simp [aeq,veq,resW]
theorem aeq_res0 : aeq (resW {}) [.int .i64 0,.bool false,.int .u64 0,.string .empty,.int .i64 0,.int .i64 0,.int .i64 0,.bool false]=true:=aeq_res {}
theorem psD (S : Sto) (n tb k : Nat) (u : Ct.I Ct.Result) (d : Bool) (hd : u.ended.isSome=d) (h : SH B w (taskA S n tb u k::L)) :
  Calls Tryz.prog 22 #[.pointer (some ⟨tb,0,none⟩)] w fun e w'=>e=.returned (.bool d)∧SH B w' (taskA S n tb u k::L):=by subst hd; exact tDone_any' S n tb k u h
theorem psN (S : Sto) (n tb k : Nat) (u : Ct.I Ct.Result) (a : Ct.Acc) (d : Bool) (ha : u.acc=a) (hd : u.ended.isSome=d) (h : SH B w (taskA S n tb u k::L)) :
  Calls Tryz.prog 102 #[.pointer (some ⟨tb,0,none⟩)] w fun e w'=>e=.returned (.tuple #[.agg (accV a).toArray,.bool (!d)])∧SH B w' (taskA S n tb u k::L):=by subst ha hd; exact tNext_any S n tb k u h
theorem psR (S : Sto) (n tb k : Nat) (u : Ct.I Ct.Result) (r : Ct.Result) (hr : u.ended.getD {}=r) (h : SH B w (taskA S n tb u k::L)) :
  Calls Tryz.prog 28 #[.pointer (some ⟨tb,0,none⟩)] w fun e w'=>e=.returned (.agg (resW r).toArray)∧SH B w' (taskA S n tb u k::L):=by subst hr; exact tResult_any S n tb k u h
theorem pxD (xb mb : Nat) (ex : Ct.Ex) (s : Ct.St) (d : Bool) (hd : ex.done=d) (h : SH B w (XA xb mb ⟨ex,s⟩::L)) :
  Calls Tryz.prog 51 #[.pointer (some ⟨xb,0,none⟩)] w fun e w'=>e=.returned (.bool d)∧SH B w' (XA xb mb ⟨ex,s⟩::L):=by subst hd; exact done_any xb mb ⟨ex,s⟩ h
theorem pxS (xb mb : Nat) (ex : Ct.Ex) (s : Ct.St) (k : Nat) (hk : ex.got.length=k) (h : SH B w (XA xb mb ⟨ex,s⟩::L)) :
  Calls Tryz.prog 101 #[.pointer (some ⟨xb,0,none⟩)] w fun e w'=>e=.returned (.int .i64 ((k : Nat) : Int))∧SH B w' (XA xb mb ⟨ex,s⟩::L):=by subst hk; exact steps_any xb mb ⟨ex,s⟩ h
theorem pxR (xb mb : Nat) (ex : Ct.Ex) (s : Ct.St) (r : Ct.Result) (hr : ex.result=r) (h : SH B w (XA xb mb ⟨ex,s⟩::L)) :
  Calls Tryz.prog 104 #[.pointer (some ⟨xb,0,none⟩)] w fun e w'=>e=.returned (.agg (resW r).toArray)∧SH B w' (XA xb mb ⟨ex,s⟩::L):=by subst hr; exact result_any xb mb ⟨ex,s⟩ h
theorem pxNd (xb mb : Nat) (ex : Ct.Ex) (s : Ct.St) (hd : ex.done=true) (h : SH B w (XA xb mb ⟨ex,s⟩::L)) :
  Calls Tryz.prog 103 #[.pointer (some ⟨xb,0,none⟩)] w fun e w'=>e=.returned (.tuple #[.agg (accV {}).toArray,.bool false])∧SH B w' (XA xb mb ⟨ex,s⟩::L):=next_d xb mb ⟨ex,s⟩ h hd
theorem pxNn (xb mb : Nat) (ex : Ct.Ex) (s : Ct.St) (hd : ex.done=false) (a : Ct.Acc) (hn : ex.next=a) (h : SH B w (XA xb mb ⟨ex,s⟩::L)) :
  Calls Tryz.prog 103 #[.pointer (some ⟨xb,0,none⟩)] w fun e w'=>e=.returned (.tuple #[.agg (accV a).toArray,.bool true])∧SH B w' (XA xb mb ⟨ex,s⟩::L):=by subst hn; exact next_n xb mb ⟨ex,s⟩ h hd
theorem psame_d {B w : World} {L : List As} (S : Sto) (n tb xb mb k : Nat) (ex : Ct.Ex) (u : Ct.I Ct.Result) (s : Ct.St) (h : SH B w (taskA S n tb u k::XA xb mb ⟨ex,s⟩::L)) (hu : u.ended.isSome=true) (hd : ex.done=true) (hk : ex.got.length=k) (r : Ct.Result) (ha : u.acc={}) (hr : u.ended.getD {}=r) (hx : ex.result=r) :
  Calls Tryz.prog 52 #[.agg [.pointer (some ⟨tb,0,none⟩),.pointer (some ⟨xb,0,none⟩)].toArray] w fun e w'=>e=.returned (.bool true)∧SH B w' (taskA S n tb u k::XA xb mb ⟨ex,s⟩::L):=by
 refine bn0 Tryz.func52 Tryz.ntmps52 h fun w h=>?_
 refine jX h fun b1 w h=>?_
 refine drH [1,3,5,7,9,11,15,17,12,18,21,23,25,27,29,33,35,30,36,39,41] (by kernel_rfl) h (.c r0 .n) fun w h=>go h fun w h=>?_
 refine tk (fun W H=>bpe un_51 rfl rfl)<|go h fun w h=>?_
 refine s000 (psD S _ _ _ u _ hu h.to) fun w h=>?_
 refine s000 (pxD _ _ ex _ _ hd h.to) fun w h=>?_
 refine tk (fun W H=>bbn un_4 rfl rfl)<|go h fun w h=>?_
 refine s000 (tSteps_any S _ _ _ u h.to) fun w h=>?_
 refine s000 (pxS _ _ ex _ _ hk h.to) fun w h=>?_
 refine j000 (psN S _ _ _ u {} _ ha hu h.to) fun w h=>?_
 refine jA h fun b2 w h=>?_
 refine j000 (pxNd _ _ ex _ hd h.to) fun w h=>?_
 refine jA h fun b3 w h=>?_
 refine drH [1,3,5,7,9,11,13,15,17,19,21,23,25,27,31,33,28,34,37,39,41,43,45,47,49,53,50,55,57,59,61,62] (by kernel_rfl) h (.c r2 (.c r0 (.c r2 .n))) fun w h=>go h fun w h=>?_
 refine tk (fun W H=>be_ eq_106 rfl rfl rfl rfl)<|go h fun w h=>?_
 refine go h fun w h=>?_
 refine go h fun w h=>?_
 refine tk (fun W H=>bbe un_4 rfl rfl)<|tk (fun W H=>pT rfl (aeq_acc _) rfl)<|go h fun w h=>?_
 refine s000 (psR S _ _ _ u r hr h.to) fun w h=>?_
 refine s000 (pxR _ _ ex _ r hx h.to) fun w h=>?_
 refine tk (fun W H=>be_ eq_43 rfl rfl rfl rfl)<|go h fun w h=>?_
 refine gFs rfl rfl (aeq_res _)<|gFs rfl rfl (aeq_res _)<|go h fun w h=>?_
 refine gFs rfl rfl (aeq_res _)<|go h fun w h=>?_
 refine tk (fun W H=>pT rfl (aeq_res _) rfl)<|go h fun w h=>?_
 refine rz ?_
 exact ⟨rfl,(h.to.fr (.c r1 (.c r0 .n)))⟩
theorem psame_n {B w : World} {L : List As} (S : Sto) (n tb xb mb k : Nat) (ex : Ct.Ex) (u : Ct.I Ct.Result) (s : Ct.St) (h : SH B w (taskA S n tb u k::XA xb mb ⟨ex,s⟩::L)) (hu : u.ended.isSome=false) (hd : ex.done=false) (hk : ex.got.length=k) (ha : u.acc=u.acc) (hn : ex.next=u.acc) (hr : u.ended.getD {}={}) :
  Calls Tryz.prog 52 #[.agg [.pointer (some ⟨tb,0,none⟩),.pointer (some ⟨xb,0,none⟩)].toArray] w fun e w'=>e=.returned (.bool true)∧SH B w' (taskA S n tb u k::XA xb mb ⟨ex,s⟩::L):=by
 refine bn0 Tryz.func52 Tryz.ntmps52 h fun w h=>?_
 refine jX h fun b1 w h=>?_
 refine drH [1,3,5,7,9,11,15,17,12,18,21,23,25,27,29,33,35,30,36,39,41] (by kernel_rfl) h (.c r0 .n) fun w h=>go h fun w h=>?_
 refine tk (fun W H=>bpe un_51 rfl rfl)<|go h fun w h=>?_
 refine s000 (psD S _ _ _ u _ hu h.to) fun w h=>?_
 refine s000 (pxD _ _ ex _ _ hd h.to) fun w h=>?_
 refine tk (fun W H=>bbn un_4 rfl rfl)<|go h fun w h=>?_
 refine s000 (tSteps_any S _ _ _ u h.to) fun w h=>?_
 refine s000 (pxS _ _ ex _ _ hk h.to) fun w h=>?_
 refine j000 (psN S _ _ _ u u.acc _ ha hu h.to) fun w h=>?_
 refine jA h fun b2 w h=>?_
 refine j000 (pxNn _ _ ex _ hd u.acc hn h.to) fun w h=>?_
 refine jA h fun b3 w h=>?_
 refine drH [1,3,5,7,9,11,13,15,17,19,21,23,25,27,31,33,28,34,37,39,41,43,45,47,49,53,50,55,57,59,61,62] (by kernel_rfl) h (.c r2 (.c r0 (.c r2 .n))) fun w h=>go h fun w h=>?_
 refine tk (fun W H=>be_ eq_106 rfl rfl rfl rfl)<|go h fun w h=>?_
 refine gTs rfl rfl (aeq_acc _)<|go h fun w h=>?_
 refine gTs rfl rfl (aeq_acc _)<|go h fun w h=>?_
 refine gTs rfl rfl (aeq_acc _)<|tk (fun W H=>bbe un_4 rfl rfl)<|tk (fun W H=>pT rfl (aeq_acc _) rfl)<|go h fun w h=>?_
 refine s000 (psR S _ _ _ u {} hr h.to) fun w h=>?_
 refine tk (fun W H=>be_ eq_43 rfl rfl rfl rfl)<|go h fun w h=>?_
 refine rz ?_
 exact ⟨by rw [show (aeq (resW {}) ([.int .i64 0,.bool false,.int .u64 0,.string .empty,.int .i64 0,.int .i64 0,.int .i64 0,.bool false]))=true from aeq_res0],h.to⟩
theorem psame_any {B w : World} {L : List As} (S : Sto) (n tb xb mb k : Nat) (ex : Ct.Ex) (u : Ct.I Ct.Result) (s : Ct.St) (h : SH B w (taskA S n tb u k::XA xb mb ⟨ex,s⟩::L)) (hk : ex.got.length=k) (hs : ex.done=u.ended.isSome∧(u.ended=none→ex.next=u.acc)∧∀ r,u.ended=some r→ex.result=r) :
  Calls Tryz.prog 52 #[.agg [.pointer (some ⟨tb,0,none⟩),.pointer (some ⟨xb,0,none⟩)].toArray] w fun e w'=>e=.returned (.bool true)∧SH B w' (taskA S n tb u k::XA xb mb ⟨ex,s⟩::L):=by
 cases hu : u.ended with
 | none=>exact psame_n S n tb xb mb k ex u s h (by rw [hu]; rfl) (by rw [hs.1,hu]; rfl) hk rfl (hs.2.1 hu) (by rw [hu]; rfl)
 | some r=>exact psame_d S n tb xb mb k ex u s h (by rw [hu]; rfl) (by rw [hs.1,hu]; rfl) hk r (acc_end (by rw [hu]; rfl)) (by rw [hu]; rfl) (hs.2.2 r hu)
end Go.Proofs.YtmliojdkmfhmmaaGreat
end
