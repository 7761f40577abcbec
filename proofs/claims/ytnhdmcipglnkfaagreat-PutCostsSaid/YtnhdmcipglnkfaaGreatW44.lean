/- Parts of a proof: Sr, Ayq, Pz3, Ayr. -/
import Derived.Test.YtnhdmcipglnkfaaGreatW43
import Derived.Shelf.Abstract
set_option linter.unusedVariables false
set_option linter.unusedSimpArgs false
set_option maxRecDepth 100000
set_option maxHeartbeats 4000000
section
namespace Go.Q9
open Go.Proofs.Tryz
open Go.RowKit
theorem xH{n:Nat}{w W:World}{b o:Nat}{v:Value}(hB:Below n w W)(hb:b<n)(h:w.cell? ⟨b,o,none⟩=some v):W.cell? ⟨b,o,none⟩=some v:=(World.cell?_of_block (hB.block b hb)).trans h
theorem Dm{n:Nat}{a b c:World}(h1:Below n a b)(hn:n<=b.heap.size)(h2:Below b.heap.size b c):Below n a c:=h1.trans ⟨h2.os,h2.tape,h2.output,h2.size,λk hk=>h2.block k (by omega)⟩
def aIb(w:World)(p:Option Addr)(xs:List Ct.bA):Prop:=∀j,j<xs.length->∃b off,p=some ⟨b,off,none⟩/\b<w.heap.size/\w.cell? ⟨b,off+j*2,none⟩=some (.string (Ct.kA xs j).key)/\w.cell? ⟨b,off+j*2+1,none⟩=some (.int .u64 ((Ct.kA xs j).value:Nat))
theorem Um(a b:ByteArray)(w:World):
  Calls prog 294 #[↑a,↑b] w λe w'=>e=.returned (.int .i64 (Lib.compareBytes a.data.toList b.data.toList))/\w=w':=by
 go_enter func294,ntmps294
 go_wp2
 rw[run_callFunc_extern func296 (by kernel_rfl) (by kernel_rfl) (by kernel_rfl) (e:=Extern.BytealgCompare.compare) (by kernel_rfl),Lib.run_compareString]
 simp only[Result.andThen]
 rw[Oper.upon_value]
 go_wp2
 go_ret
 exact⟨rfl,rfl⟩
theorem Le(a b:ByteArray)(w:World):
  Calls prog 286 #[↑a,↑b] w λe w'=>e=.returned (.int .i64 (Lib.compareBytes a.data.toList b.data.toList))/\w=w':=by
 go_enter func286,ntmps286
 go_wp2_with (go_at_call 294;refine(Um _ _ _).mono ?_;rintro e w' ⟨rfl,rfl⟩)
 go_ret
 exact⟨rfl,rfl⟩
theorem Lb(k:ByteArray)(v:Nat)(key:ByteArray)(w:World):
  Calls prog 285 #[.agg #[↑k,.int .u64 (v:Nat)],↑key] w λe w'=>e=.returned (.int .i64 (Lib.compareBytes k.data.toList key.data.toList))/\Below w.heap.size w w':=by
 go_enter func285,ntmps285
 go_wp2_with (go_at_call 286;refine(Le _ _ _).mono ?_;rintro e w' ⟨rfl,rfl⟩)
 go_ret
 exact⟨rfl,(Below.refl _ _).alloc (aW _) _⟩
theorem H8(w:World)(p:Option Addr)(cap:Nat)(xs:List Ct.bA)(key:ByteArray)(hc:aIb w p xs)(hl:xs.length<=1000000000000)(hv:Ct.aU xs=true):
  Calls prog 284 #[.slice p xs.length cap,↑key,.func (.func 285) #[] #[]] w λe w'=>e=.returned (.tuple #[.int .i64 (Ct.bB xs key:Nat),.bool (Ct.lG xs key)])/\Below w.heap.size w w':=by
 have HC:=Lib.hid hc;have HV:=Lib.hid hv
 have hent:∀args w,(callFunc 285 args).run prog w=.ok (.enter 285 args) w:=Go.Proofs.enters_of func285 (by kernel_rfl) rfl
 clear hc hv
 go_enter func284,ntmps284
 go_wp2_with fail
 go_loopw [9,10] (λa b W=>∃i j:Nat,i<=j/\j<=xs.length/\a=.int .i64 (i:Int)/\b=.int .i64 (j:Int)/\(∀m,m<i->Ct.dW (Ct.kA xs m).key key=true)/\(∀m,j<=m->m<xs.length->Ct.dW (Ct.kA xs m).key key=false)/\Below w.heap.size w W) (λa b _=>(intOf b).toNat -(intOf a).toNat)
 case atStart=>exact⟨0,xs.length,by omega,by omega,rfl,rfl,λm hm=>by omega,λm h1 h2=>by omega,Below.refl _ _⟩
 case round=>
  obtain⟨i,j,hij,hj,rfl,rfl,hlo,hhi,hB⟩:=hrel
  have HLO:=Lib.hid hlo;have HHI:=Lib.hid hhi
  clear hlo hhi
  by_cases hlt:i<j
  ·have hh:(i+j)/2<xs.length:=by omega
   obtain⟨b,off,rfl,hb,c0,c1⟩:=HC.out _ hh
   have d0:=xH hB hb c0;have d1:=xH hB hb c1
   clear c0 c1
   have HCP:=Lib.hid (Lb (Ct.kA xs ((i+j)/2)).key (Ct.kA xs ((i+j)/2)).value key)
   have E2:=Lib.hid (show ((i:Int)+j)/2=(((i+j)/2:Nat):Int) by omega)
   cases hk:Ct.dW (Ct.kA xs ((i+j)/2)).key key with
   |true=>
    have HLO2:=Lib.hid (show ∀m,m<(i+j)/2+1->Ct.dW (Ct.kA xs m).key key=true from λm hm=>Ct.EY HV.out (by omega) hh hk)
    have hneg:=(Ct.Ay _ _).1 hk
    clear hk
    generalize Lib.compareBytes (Ct.kA xs ((i+j)/2)).key.data.toList key.data.toList=C at HCP hneg
    go_wp2_with (go_at_call 285;refine(HCP.out _).mono ?_;rintro e w1 ⟨rfl,hb1⟩)
    go_roundw
    case rel=>exact⟨(i+j)/2+1,j,by omega,hj,by rw[E2.out];go_num,rfl,HLO2.out,HHI.out,Dm hB hB.size hb1⟩
    case measure=>simp[intOf];omega
   |false=>
    have HHI2:=Lib.hid (show ∀m,(i+j)/2<=m->m<xs.length->Ct.dW (Ct.kA xs m).key key=false from λm h1 hm=>Ct.NN HV.out h1 hm hk)
    have hneg:¬Lib.compareBytes (Ct.kA xs ((i+j)/2)).key.data.toList key.data.toList<0:=λhn=>by rw[(Ct.Ay _ _).2 hn]at hk;cases hk
    clear hk
    generalize Lib.compareBytes (Ct.kA xs ((i+j)/2)).key.data.toList key.data.toList=C at HCP hneg
    go_wp2_with (go_at_call 285;refine(HCP.out _).mono ?_;rintro e w1 ⟨rfl,hb1⟩)
    go_roundw
    case rel=>exact⟨i,(i+j)/2,by omega,by omega,rfl,by rw[E2.out],HLO.out,HHI2.out,Dm hB hB.size hb1⟩
    case measure=>simp[intOf];omega
  ·obtain rfl:i=j:=by omega
   have HP:=Lib.hid (Ct.Xs xs key i hj HLO.out HHI.out)
   by_cases hin:i<xs.length
   ·obtain⟨b,off,rfl,hb,c0,c1⟩:=HC.out _ hin
    have d0:=xH hB hb c0;have d1:=xH hB hb c1
    clear c0 c1
    have HCP:=Lib.hid (Lb (Ct.kA xs i).key (Ct.kA xs i).value key)
    have HPH:=Lib.hid (show Ct.lG xs key=(Lib.compareBytes (Ct.kA xs i).key.data.toList key.data.toList==0) by
     unfold Ct.lG
     rw[HP.out,Bool.eq_iff_iff]
     simp only[pM,Gx,Ct.XN,Ae,hin,true_and])
    generalize Lib.compareBytes (Ct.kA xs i).key.data.toList key.data.toList=C at HCP HPH
    go_wp2_with (go_at_call 285;refine(HCP.out _).mono ?_;rintro e w1 ⟨rfl,hb1⟩)
    go_ret2
    exact⟨by rw[HP.out,HPH.out];rfl,Dm hB hB.size hb1⟩
   ·have HPH:=Lib.hid (show Ct.lG xs key=false by unfold Ct.lG;rw[HP.out];simp[hin])
    go_wp2_with fail
    go_ret2
    exact⟨by rw[HP.out,HPH.out];rfl,hB⟩
end Go.Q9
end
section
namespace Go.Q9
open Go.Proofs.Tryz
open Go.E
end Go.Q9
end
section
namespace Go.Q9
open Go.Proofs.Tryz
open Go.RowKit Go.E Go.Ct
attribute [local irreducible] gA wpS Go.E.X XS C kV lL fin Y U F Ca kU bl rb aV bS ex ce pu sK gK bK zK gG fE cZ gY mA
theorem bel{B w w':World}{L:List As}(h:SH B w L)(hb:Below w.heap.size w w'):SH B w' L:=(h.new (A:=bH []) ⟨⟨hb.os,hb.tape,hb.output⟩,hb.size,λk hk _=>hb.block k hk⟩ (O:=λ_=>False) (R:=λ_=>False) ⟨λ_ h=>h,(λz hz=>by cases hz),λ_ h=>h.elim⟩ (λ_ h=>h.elim) (λ_ h=>h.elim)).drop
section
attribute [local semireducible] gA wpS Go.E.X XS C kV lL fin Y U F Ca kU bl rb aV bS ex ce pu sK gK bK zK gG fE cZ gY mA
variable{B w:World}{L:List As}
theorem ID(l:List Ct.bA)(p:Option Addr)(c:Nat)(key:ByteArray)(h:SH B w (bS 2 (.slice p l.length c) l.length (l.flatMap aR)::L))(hv:Ct.aU l=true)(hl:l.length<=1000000000000):
  Calls prog 284 #[.slice p l.length c,↑key,.func (.func 285) #[] #[]] w λe w'=>e=.returned (.tuple #[.int .i64 (Ct.bB l key:Nat),.bool (Ct.lG l key)])/\SH B w' (bS 2 (.slice p l.length c) l.length (l.flatMap aR)::L):=by
 obtain⟨_,_,hr⟩:=h.at_ a0
 refine(H8 w p c l key (λj hj=>?_) hl hv).mono ?_
 ·rcases hr.1.2 with⟨h1,h2⟩|⟨b,o,cap,h1,hb,h3,h4,h5⟩
  ·omega
  ·injection h1 with h1
   have hg:l[j]?=some (Ct.kA l j):=by unfold Ct.kA;rw[cK,fV hj];rfl
   refine⟨b,o,h1,hb,?_,?_⟩
   ·exact h5 (j*2) _ (by have:=zE bJ l j 0 _ hg (by decide);simpa[aR]using this)
   ·rw[Nat.add_assoc];exact h5 (j*2+1) _ (by have:=zE bJ l j 1 _ hg (by decide);simpa[aR]using this)
 ·rintro e w' ⟨rfl,hb⟩;exact⟨rfl,bel h hb⟩
end
variable{B w:World}{L:List As}
theorem Cb(l:List Ct.bA)(p:Option Addr)(c:Nat)(key:ByteArray)(h:SH B w (bS 2 (.slice p l.length c) l.length (l.flatMap aR)::L))(hv:Ct.aU l=true)(hl:l.length<=150000000000):
  Calls prog 265 #[.slice p l.length c,↑key] w λe w'=>e=.returned (.tuple #[.int .i64 ((Ct.bB l key:Nat):Int),.bool (Ct.lG l key)])/\SH B w' (bS 2 (.slice p l.length c) l.length (l.flatMap aR)::L):=by
 refine cN func265 ntmps265 h λw h=>?_
 refine bQ (ID _ _ _ _ h.to hv (by omega)) λw h=>?_
 exact rr (iG rfl rfl rfl)<|⟨rfl,h⟩
theorem aEw{l:List Ct.bA}{key:ByteArray}(hv:Ct.aU l=true)(h:Ct.lG l key=true):Ct.bN l key=((l.getD (Ct.bB l key) ⟨.empty,0⟩).value,true):=by unfold Ct.bN;rw[hv,h];rfl
theorem aJk{l:List Ct.bA}{key:ByteArray}(h:Ct.lG l key=false):Ct.bN l key=(0,false):=by unfold Ct.bN;rw[h,Bool.and_false];rfl
theorem Nq{l:List Ct.bA}{key:ByteArray}(h:Ct.lG l key=true):Ct.bB l key<l.length:=by unfold Ct.lG at h;simp only[pM,Gx]at h;exact h.1
theorem LK(l:List Ct.bA)(p:Option Addr)(c:Nat)(key:ByteArray)(h:SH B w (bS 2 (.slice p l.length c) l.length (l.flatMap aR)::L))(hv:Ct.aU l=true)(hl:l.length<=150000000000):
  Calls prog 234 #[.slice p l.length c,↑key] w λe w'=>e=.returned (.tuple #[.int .u64 (((Ct.bN l key).1:Nat):Int),.bool (Ct.bN l key).2])/\SH B w' (bS 2 (.slice p l.length c) l.length (l.flatMap aR)::L):=by
 refine cN func234 ntmps234 h λw h=>?_
 refine bQ (rW _ _ _ h.to hv (by omega)) λw h=>?_
 refine bQ (Cb _ _ _ _ h.to hv (by omega)) λw h=>?_
 refine qc h (λdF w h=>?_) λdF w h=>?_
 have cO:(Ct.lG l key)=false:=(gZ _).mp dF
 refine go h λw h=>?_
 exact rr (iG rfl rfl rfl)<|⟨by rw[aJk cO];rfl,h⟩
 have cJ:(Ct.lG l key)=true:=(hU _).mp dF
 refine go h λw h=>?_
 have hlt:=Nq cJ
 refine go h λw h=>?_
 obtain⟨b4,o5,rfl⟩:=h.fq a0 (by omega)
 refine go h λw h=>?_
 refine st (ld One.h rfl ((h.rr a0).x bJ (by decide) (by omega) ⟨.empty,0⟩ 1 _ rfl))<|go h λw h=>?_
 exact rr (iG rfl rfl rfl)<|⟨by rw[aEw hv cJ],h⟩
theorem aCw(l:List Ct.bA):∀(i v:Nat),i<l.length->(l.flatMap aR).set (i*2+1) (.int .u64 (v:Int))=(l.set i ⟨(l.getD i ⟨.empty,0⟩).key,v⟩).flatMap aR:=by
 induction l with
 |nil=>intro i v h;simp at h
 |cons q l ih=>
  intro i v h
  cases i with
  |zero=>rfl
  |succ i=>
   have h2:=ih i v (by simpa using h)
   rw[show (i+1)*2+1=(i*2+1)+2 by omega]
   show (aR q++l.flatMap aR).set _ _=aR q++((l.set i ⟨(l.getD i ⟨.empty,0⟩).key,v⟩).flatMap aR)
   rw[<- h2];rfl
theorem Z'{l:List Ct.bA}{key:ByteArray}{v:Nat}(hv:Ct.aU l=true)(h:Ct.lG l key=true):l.set (Ct.bB l key) ⟨(l.getD (Ct.bB l key) ⟨.empty,0⟩).key,v⟩=Ct.oQ l key v:=by
 unfold Ct.oQ;rw[if_neg (by simp[hv]),if_pos h,List.set_eq_take_append_cons_drop,if_pos (Nq h)];rfl
theorem whole{α:Type}{l:List α}{d:α}:(List.replicate l.length d).take 0++l++(List.replicate l.length d).drop (0+l.length)=l:=by simp
theorem aJ6{α:Type}(A D:List α)(d z:α):(((List.replicate (A.length+D.length+1) d).take 0++A++(List.replicate (A.length+D.length+1) d).drop (0+A.length)).set A.length z).take (A.length+1)++D++(((List.replicate (A.length+D.length+1) d).take 0++A++(List.replicate (A.length+D.length+1) d).drop (0+A.length)).set A.length z).drop (A.length+1+D.length)=A++z::D:=by
 have e:(((List.replicate (A.length+D.length+1) d).take 0++A++(List.replicate (A.length+D.length+1) d).drop (0+A.length)).set A.length z)=A++z::List.replicate D.length d:=by
  rw[List.take_zero,Qs,wS,List.drop_replicate,show A.length+D.length+1-A.length=D.length+1 by omega,List.replicate_succ,List.set_append_right _ _ (aW _),Nat.sub_self,List.set_cons_zero]
 rw[e,List.drop_eq_nil_of_le (by rw[cV,Hd,NU];omega),List.take_append,xW (Nat.le_succ _),Nat.add_sub_cancel_left,List.take_succ_cons,List.take_zero]
 simp
theorem aIz{α:Type}{l:List α}{d z:α}{k n:Nat}(hk:k<=l.length)(hn:l.length+1=n):(((List.replicate n d).take 0++l.take k++(List.replicate n d).drop (0+(l.take k).length)).set k z).take (k+1)++l.drop k++(((List.replicate n d).take 0++l.take k++(List.replicate n d).drop (0+(l.take k).length)).set k z).drop (k+1+(l.drop k).length)=l.take k++z::l.drop k:=by
 have h1:(l.take k).length=k:=by rw[lI,Hc hk]
 have h2:=aJ6 (l.take k) (l.drop k) d z
 rw[h1,Bp,show k+(l.length-k)+1=n by omega]at h2
 rw[h1,Bp];exact h2
theorem A0{α:Type}{l:List α}{d:α}{k n:Nat}(hk:k<=l.length)(hn:k<=n):((List.replicate n d).take 0++l.take k++(List.replicate n d).drop (0+(l.take k).length)).length=n:=by simp;omega
theorem aDr{l:List Ct.bA}{key:ByteArray}{v:Nat}(hv:Ct.aU l=true)(h:Ct.lG l key=false):l.take (Ct.bB l key)++⟨key,v⟩::l.drop (Ct.bB l key)=Ct.oQ l key v:=by
 unfold Ct.oQ;rw[if_neg (by simp[hv]),if_neg (by simp[h])]
theorem Zr(l:List Ct.bA)(key:ByteArray)(v:Nat)(hv:Ct.aU l=true):(Ct.oQ l key v).length=l.length+(if Ct.lG l key=true then 0 else 1):=by
 have hle:=Ct.vW l key
 unfold Ct.oQ
 rw[if_neg (by simp[hv])]
 by_cases h:Ct.lG l key=true
 ·have:=Nq h
  rw[if_pos h,if_pos h];simp;omega
 ·rw[if_neg h,if_neg h];simp;omega
theorem e9{l:List Ct.bA}{p:Option Addr}{m c:Nat}(hz:m=l.length)(h:SH B w (bS 2 (.slice p m c) m (l.flatMap aR)::L)):∃p' c',Ending.returned (.slice p m c)=.returned (.slice p' l.length c')/\SH B w (bS 2 (.slice p' l.length c') l.length (l.flatMap aR)::L):=by
 subst hz;exact⟨p,c,rfl,h⟩
section
attribute [local semireducible] gA wpS Go.E.X XS C kV lL fin Y U F Ca kU bl rb aV bS ex ce pu sK gK bK zK gG fE cZ gY mA
attribute [local irreducible] gA wpS
variable{B w:World}{L:List As}
theorem aD8(l:List Ct.bA)(p:Option Addr)(c:Nat)(key:ByteArray)(v:Nat)(h:SH B w (bS 2 (.slice p l.length c) l.length (l.flatMap aR)::L))(hv:Ct.aU l=true)(hl:l.length<=150000000000):
  Calls prog 268 #[.slice p l.length c,↑key,.int .u64 (v:Int)] w λe w'=>∃p' c',e=.returned (.slice p' (Ct.oQ l key v).length c')/\SH B w' (bS 2 (.slice p' (Ct.oQ l key v).length c') (Ct.oQ l key v).length ((Ct.oQ l key v).flatMap aR)::bS 2 (.slice p l.length c) l.length (l.flatMap aR)::L):=by
 have hle:=Ct.vW l key
 refine Kk (args:=[_,_,_]) func268 rfl ntmps268 rfl ?_
 refine sq<|rg<|st (sg rfl)<|xe<|nx<|sq<|sq<|rg<|st (mv rfl)<|cl (ca eF rfl) ((rW l _ _ (h.fr (.c r0 .n)) hv (by omega)).mono ?_)
 rintro _ w ⟨rfl,h⟩
 refine⟨_,rfl,?_⟩
 refine st (nt rfl)<|xe<|nx<|cF rfl<|sk<|nx<|sq<|rg<|st (mv rfl)<|st (mv rfl)<|cl (ca eF rfl) ((Cb l _ _ key (h.fr (.c r0 .n)) hv (by omega)).mono ?_)
 rintro _ w ⟨rfl,h⟩
 refine⟨_,rfl,?_⟩
 refine st (mv rfl)<|st (xr rfl rfl)<|st (xr rfl rfl)<|st (sg rfl)<|st (sg rfl)<|xe<|nx<|sq<|sq<|rg<|st (mv rfl)<|xe<|nx<|?_
 rcases dQ (Ct.lG l key)with dF|dF
 ·refine ct rfl dF<|sq<|?_
  have hlt:=Nq dF
  refine rg<|st (mv rfl)<|st (ln fB rfl rfl)<|sf (mk h fB tO rfl rfl (by omega) (by unfold maxLen;omega))<|?_
  rintro _ w ⟨b2,rfl,h⟩
  rw[vO bJ (by decide) (d:=⟨.empty,0⟩) rfl]at h
  refine st (sg rfl)<|xe<|nx<|sq<|?_
  refine rg<|st (mv rfl)<|st (mv rfl)<|sf (cpz (k:=0) h a1 fB gR rfl rfl u0 (λ_=>by rw[Nat.zero_mul]) (by omega) (by omega) (lN eW _))<|?_
  rintro _ w ⟨rfl,h⟩
  rw[Nr bJ]at h
  rw[whole]at h
  refine xe<|nx<|sq<|rg<|st (mv rfl)<|st (mv rfl)<|st (mv rfl)<|st (ix (j:=Ct.bB l key) fB gR rfl rfl (by omega))<|st (fa B1 rfl)<|sf (sox (i:=(Ct.bB l key)) (o:=1) h HK rfl rfl (by omega) u0)<|?_
  rintro _ w h
  rw[aCw l (Ct.bB l key) v (by first|omega|(simp;omega))]at h
  refine xe<|nx<|sq<|rg<|st (mv rfl)<|st (sg rfl)<|xe<|nx<|rt<|tr<|?_
  refine rr (mC results268 rfl)<|?_
  have h:=(h).fz
  rw[Z' hv dF]at h
  have hz:l.length=(Ct.oQ l key v).length:=by rw[Zr l key v hv,if_pos dF];rfl
  exact e9 hz h
 ·refine cf rfl dF<|sk<|nx<|sq<|rg<|st (mv rfl)<|st (ln fB rfl rfl)<|st (bw rfl rfl (iR (c:=((l.length+1:Nat):Int)) (by omega) (by omega) (by omega)))<|sf (mk h fB tO rfl rfl (by omega) (by unfold maxLen;omega))<|?_
  rintro _ w ⟨b3,rfl,h⟩
  rw[vO bJ (by decide) (d:=⟨.empty,0⟩) rfl]at h
  refine st (sg rfl)<|xe<|nx<|sq<|?_
  have aFk:l.length<=c:=h.WK a1
  have h:=h.cut (k:=Ct.bB l key) a1 (by omega)
  rw[Td bJ]at h
  have h:=h.tl (k:=Ct.bB l key) a2 (by omega)
  rw[tR bJ]at h
  refine rg<|st (mv rfl)<|st (mv rfl)<|st (mv rfl)<|st (slh (k:=(Ct.bB l key)) fB gR rfl rfl (by(try dsimp only);omega))<|sf (cpz (k:=0) h a1 fB gR rfl rfl u2 (λ_=>by rw[Nat.zero_mul]) (by omega) (by omega) (lN eW _))<|?_
  rintro _ w ⟨rfl,h⟩
  rw[Nr bJ]at h
  refine xe<|nx<|sq<|rg<|st (mv rfl)<|st (mv rfl)<|st (mv rfl)<|st (mv rfl)<|st (bd [↑key,.int .u64 (v:Int)] f9 rfl (by kernel_rfl))<|st (ix (j:=Ct.bB l key) fB gR rfl rfl (by omega))<|sf (sor (enc:=aR) (a:=(⟨key,v⟩:Ct.bA)) h gR bJ eW rfl rfl rfl (by omega) (A0 (by omega) (by omega)) u2)<|?_
  rintro _ w h
  refine xe<|nx<|sq<|fD [1,3,5,7,9,11,13,14] (by kernel_rfl) h .n λw h=>tk (λW H=>mv rfl)<|tk (λW H=>mv rfl)<|tk (λW H=>bw rfl rfl (iR (c:=((Ct.bB l key+1:Nat):Int)) (by omega) (by omega) (by omega)))<|tk (λW H=>sll (k:=(Ct.bB l key+1)) fB gR rfl rfl (by(try dsimp only);omega) (aW _))<|tk (λW H=>mv rfl)<|tk (λW H=>mv rfl)<|tk (λW H=>sll (k:=(Ct.bB l key)) fB gR rfl rfl (by(try dsimp only);omega) (by(try dsimp only);omega))<|ff (cpz (k:=(Ct.bB l key+1)) h a0 fB gR rfl rfl u2 (λq=>aJf (by omega)) (by omega) (by omega) (lN eW _))<|?_
  rintro _ w ⟨rfl,h⟩
  rw[Nr bJ]at h
  refine⟨h.hs .n,?_⟩
  refine xz<|nx<|sq<|rg<|st (mv rfl)<|st (sg rfl)<|xe<|nx<|rt<|?_
  refine rr (mC results268 rfl)<|?_
  have h:=(h.drop.drop).fz
  rw[aIz (by omega) rfl,aDr hv dF]at h
  have hz:l.length+1=(Ct.oQ l key v).length:=by rw[Zr l key v hv,if_neg (by simp[dF])]
  exact e9 hz h
end
section
attribute [local semireducible] gA wpS Go.E.X XS C kV lL fin Y U F Ca kU bl rb aV bS ex ce pu sK gK bK zK gG fE cZ gY mA
attribute [local irreducible] gA wpS
end
variable{B w:World}{L:List As}
theorem Wu(x:Nat)(l:List Ct.bA)(p:Option Addr)(c:Nat)(h:SH B w (bS 2 (.slice p l.length c) l.length (l.flatMap aR)::L))(hl:l.length<=200000000000):
  Calls prog 267 #[.int .u64 (x:Int),.slice p l.length c] w λe w'=>∃q',e=.returned (.agg (aK {kind:=6,hash:=x,aH:=l} q').toArray)/\SH B w' (aL {kind:=6,hash:=x,aH:=l} q'::L):=by
 refine cN func267 ntmps267 h λw h=>?_
 refine jA h λb1 w h=>?_
 refine Zn (Kf _ _ _ h.to (by omega)) λq2 c3 w h=>?_
 exact rr (cD rfl rfl (h.b a1) Row.h)<|⟨⟨none,0,q2,c3⟩,rfl,SH.ofP (m:={kind:=6,hash:=x,aH:=l}) h.to rfl⟩
section
attribute [local semireducible] gA wpS Go.E.X XS C kV lL fin Y U F Ca kU bl rb aV bS ex ce pu sK gK bK zK gG fE cZ gY mA
attribute [local irreducible] gA wpS
variable{B w:World}{L:List As}
theorem Pb(n:Ct.Node)(q:Lq)(key:ByteArray)(v:Nat)(h:SH B w (aL n q::L))(nf:NF n)(hpl:n.aH.length<=150000000000):
  Calls prog 237 #[.agg (aK n q).toArray,↑key,.int .u64 (v:Int)] w λe w'=>∃q',e=.returned (.tuple #[.agg (aK (Ct.grown n key v).1 q').toArray,.bool (Ct.grown n key v).2])/\SH B w' (aL (Ct.grown n key v).1 q'::aL n q::L):=by
 have nf_br:=nf.br
 have nf_pr:=nf.pr
 have nf_bm:=nf.bm
 have nf_hs:=nf.hs
 have nf_ks:=nf.ks
 refine Kk (args:=[_,_,_]) func237 rfl ntmps237 rfl ?_
 refine sq<|rg<|sf (bx h rfl rfl)<|?_
 rintro _ w ⟨b1,rfl,h⟩
 refine sf (al h GY)<|?_
 rintro _ w ⟨b2,rfl,h⟩
 refine st (sg rfl)<|xe<|nx<|sq<|sq<|rg<|st (kB rfl (eH (h.b a1)) iK)<|cl (ca eF rfl) ((WN n q (h.fr (.c r2 .n)) nf).mono ?_)
 rintro _ w ⟨rfl,h⟩
 refine⟨_,rfl,?_⟩
 refine st (nt rfl)<|st (mv rfl)<|?_
 rcases dQ (!n.Tq)with cJ|cJ
 ·have eB:n.Tq=false:=(gZ _).mp cJ
  refine gF rfl rfl cJ<|gF rfl rfl cJ<|gF rfl rfl cJ<|st (pT rfl cJ rfl)<|xe<|nx<|cT rfl<|sq<|rg<|st (bd [.int .i64 0,.int .i64 0,.int .i64 0,.int .u64 0,.slice none 0 0,.int .u64 0,.string .empty,.int .u64 0,.slice none 0 0,.int .i64 0,.int .i64 0,.int .i64 0,.int .i64 0,.int .i64 0] Cp rfl (by kernel_rfl))<|sf (so h rfl rfl rfl xS rfl (.r (.r (.r (.r (.r (.r (.r (.r (.r (.r (.r (.r (.r (.r .d)))))))))))))) u1)<|?_
  rintro _ w h
  refine st (sg rfl)<|xe<|nx<|rt<|tr<|?_
  refine rr (dS results237 rfl (h.b a1) iK rfl)<|?_
  rw[QY (.inl eB)];exact⟨{},rfl,SH.fI _ rfl rfl (h.fr (.c r1 (.c r1 .n))).drop.drop⟩
 ·have dM:n.Tq=true:=(hU _).mp cJ
  refine gT rfl rfl cJ<|st (mv rfl)<|gT rfl rfl cJ<|st (A9 AE rfl rfl)<|gT rfl rfl cJ<|st (bi rfl rfl rfl)<|st (pF rfl cJ rfl)<|xe<|nx<|?_
  rcases dQ (decide (((key.size:Int):Int)>64))with dJ|dJ
  ·have El:=dH dJ
   refine ct rfl dJ<|sq<|rg<|st (bd [.int .i64 0,.int .i64 0,.int .i64 0,.int .u64 0,.slice none 0 0,.int .u64 0,.string .empty,.int .u64 0,.slice none 0 0,.int .i64 0,.int .i64 0,.int .i64 0,.int .i64 0,.int .i64 0] Cp rfl (by kernel_rfl))<|sf (so h rfl rfl rfl xS rfl (.r (.r (.r (.r (.r (.r (.r (.r (.r (.r (.r (.r (.r (.r .d)))))))))))))) u1)<|?_
   rintro _ w h
   refine st (sg rfl)<|xe<|nx<|rt<|tr<|?_
   refine rr (dS results237 rfl (h.b a1) iK rfl)<|?_
   rw[QY (.inr (by omega))];exact⟨{},rfl,SH.fI _ rfl rfl (h.fr (.c r1 (.c r1 .n))).drop.drop⟩
  ·have Ua:=dR dJ
   refine cf rfl dJ<|sk<|nx<|sq<|?_
   have h:SH B w (bS 1 (.slice q.pb n.aA.length q.cb) n.aA.length (n.aA.map (Value.int .i64))::bS 2 (.slice q.pp n.aH.length q.cp) n.aH.length (n.aH.flatMap aR)::bl b2 ([.int .i64 0,.int .i64 0,.int .i64 0,.int .u64 0,.slice none 0 0,.int .u64 0,.string .empty,.int .u64 0,.slice none 0 0,.int .i64 0,.int .i64 0,.int .i64 0,.int .i64 0,.int .i64 0]) 53::bl b1 (aK n q) 53::L):=SH.se (l:=[bE n q,cP n q]) h
   have KW:=(iW (yF dM).2).pJ (yF dM).1
   have pQ:=Zr n.aH key v KW
   have hpm:(Ct.oQ n.aH key v).length<=n.aH.length+1:=by rw[pQ];split<;>omega
   refine fD [1,3,5,7,9,11,12,14,16,18] (by kernel_rfl) h (.c r3 .n) λw h=>tk (λW H=>fa Zv rfl)<|tk (λW H=>ld qD rfl (H.c a0 rfl))<|tk (λW H=>fa qX rfl)<|tk (λW H=>ld wN rfl (H.c a0 rfl))<|tk (λW H=>mv rfl)<|tk (λW H=>mv rfl)<|cs (ca eF rfl) ((aD8 n.aH _ _ key v (h.fr (.c r1 .n)) KW (by omega)).mono ?_)
   rintro _ w ⟨q9,c10,rfl,h⟩
   refine⟨_,rfl,h.hs (.c r4 .n),?_⟩
   refine cs (ca eF rfl) ((Wu n.hash (Ct.oQ n.aH key v) _ _ (h.fr (.c r0 .n)) (by omega)).mono ?_)
   rintro _ w ⟨Ug,rfl,h⟩
   refine⟨_,rfl,h.hs (.c r4 .n),?_⟩
   refine ff (so h rfl rfl rfl xS rfl (.r (.r (.r (.r (.r (.r (.r (.r (.r (.r (.r (.r (.r (.r .d)))))))))))))) u3)<|?_
   rintro _ w h
   refine⟨h.hs (.c r4 .n),?_⟩
   refine ef (sg rfl) (h.hs (.c r4 .n))<|xz<|nx<|rt<|?_
   refine rr (dS results237 rfl (h.b a3) iK rfl)<|?_
   rw[ON dM (by omega)]
   have h:=((h.fr (.c r3 (.c r3 .n))).drop.drop.fr (.c r0 (.c r1 (.c r0 .n))))
   have h:=h.fr (.c r1 (.c r1 .n))
   exact⟨Ug,rfl,(SH.is (l:=[bE n q,cP n q]) h).fr (.c r1 .n)⟩
end
end Go.Q9
end
section
namespace Go.Q9
open Go.Proofs.Tryz
open Go.E
end Go.Q9
end
