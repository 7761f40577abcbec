/- Parts of a proof: Rt, Rf. -/
import Derived.Test.YtlpbjpanggcbbaaGreatDoorW26
set_option linter.unusedVariables false
set_option linter.unusedSimpArgs false
set_option maxRecDepth 100000
set_option maxHeartbeats 4000000
section
namespace Go.Ct
theorem YG{l:List bN}(hv:aQ l=true){k:Nat}(h1:1<=k)(hk:k<l.length):(Op.bytesLess (l.getD k ⟨.empty,0⟩).key.toList (l.getD (k-1) ⟨.empty,0⟩).key.toList||(l.getD k ⟨.empty,0⟩).key.toList==(l.getD (k-1) ⟨.empty,0⟩).key.toList)=false:=by
 have h:=Eh l hv (k-1) k (by omega) hk
 unfold dM iE at h
 rw[Bool.or_eq_false_iff]
 constructor
 ·cases hb:Op.bytesLess (l.getD k ⟨.empty,0⟩).key.toList (l.getD (k-1) ⟨.empty,0⟩).key.toList with
  |false=>rfl
  |true=>have:=oC _ _ _ h hb;rw[kV]at this;cases this
 ·rw[beq_eq_false_iff_ne]
  intro he
  rw[he,kV]at h;cases h
theorem Cj{l:List bN}(hs:kS l=true){k:Nat}(hk:k<l.length):decide ((((l.getD k ⟨.empty,0⟩).key.size:Nat):Int)>64)=false:=by
 have:=(jF l).1 hs (l.getD k ⟨.empty,0⟩) (by rw[Fb,fM hk];exact qR hk)
 rw[decide_eq_false_iff_not];omega
theorem TD{l:List bN}{key:ByteArray}{k:Nat}(h:∀j,j<k->bR (iE l j).key key=false)(hk:((l.getD k ⟨.empty,0⟩).key.toList==key.toList)=false):∀j,j<k+1->bR (iE l j).key key=false:=λj hj=>by
 by_cases e:j=k
 ·subst e;exact hk
 ·exact h j (by omega)
theorem kM{a b:ByteArray}(h:bR a b=true):a=b:=by
 unfold bR at h
 rw[toList_data,toList_data,wB]at h
 exact ByteArray.ext (Array.toList_inj.1 h)
theorem OR{a b:ByteArray}(h:dM a b=true):bR a b=false:=by
 cases hb:bR a b with
 |false=>rfl
 |true=>rw[kM hb,mL]at h;cases h
theorem MN{l:List bN}{key:ByteArray}{k:Nat}(hv:aQ l=true)(hk:k<l.length)(he:bR (iE l k).key key=true):aZ l key=k:=by
 have e:=kM he
 refine Ny l key k (by omega) (λm hm=>?_) (λm h1 h2=>?_)
 ·rw[<- e];exact Eh l hv m k hm hk
 ·by_cases hmk:m=k
  ·subst hmk;rw[e];exact mL _
  ·have h3:=Eh l hv k m (by omega) h2
   cases hb:dM (iE l m).key key with
   |false=>rfl
   |true=>rw[<- e]at hb;have:=kA h3 hb;rw[mL]at this;cases this
theorem KK{l:List bN}{key:ByteArray}{k:Nat}(hv:aQ l=true)(hk:k<l.length)(he:((l.getD k ⟨.empty,0⟩).key.toList==key.toList)=true):bB l key=((iE l k).value,true):=by
 have hb:=MN hv hk he
 unfold bB iZ
 rw[hb,hv,show bR (iE l k).key key=true from he]
 simp[hk]
theorem JF{l:List bN}{key:ByteArray}(h:∀j,j<l.length->bR (iE l j).key key=false):iZ l key=false:=by
 unfold iZ
 by_cases hb:aZ l key<l.length
 ·rw[h _ hb];simp
 ·simp[hb]
theorem BU{l:List bN}{key:ByteArray}(hv:aQ l=true)(h:∀j,j<l.length->bR (iE l j).key key=false):bB l key=(0,false):=by
 unfold bB;rw[JF h];simp
def cX(l:List bN)(key:ByteArray):List bN:=l.filter λq=>!bR q.key key
def kO(l:List bN)(z:bN):List bN:=l.take (aZ l z.key)++z::l.drop (aZ l z.key)
theorem zX{l:List bN}{k:Nat}(hk:k<l.length):l.take (k+1)=l.take k++[l.getD k ⟨.empty,0⟩]:=by
 rw[List.take_succ_eq_append_getElem hk,Fb,fM hk];rfl
theorem A4{l:List bN}{key:ByteArray}{k:Nat}(hk:k<l.length)(h:(!((l.getD k ⟨.empty,0⟩).key.toList==key.toList))=true):(l.take k).filter (λq=>!bR q.key key)++[l.getD k ⟨.empty,0⟩]=(l.take (k+1)).filter λq=>!bR q.key key:=by
 rw[zX hk,Ab]
 congr 1
 rw[AD,if_pos (show (!bR _ key)=true from h),List.filter_nil]
theorem A3{l:List bN}{key:ByteArray}{k:Nat}(hk:k<l.length)(h:(!((l.getD k ⟨.empty,0⟩).key.toList==key.toList))=false):(l.take k).filter (λq=>!bR q.key key)=(l.take (k+1)).filter λq=>!bR q.key key:=by
 rw[zX hk,Ab,AD,if_neg (by rw[show (!bR (l.getD k ⟨.empty,0⟩).key key)=false from h];decide),List.filter_nil,List.append_nil]
theorem oR(l:List bN)(key:ByteArray):(cX l key).length<=l.length:=List.length_filter_le _ _
theorem TM{l:List bN}{key:ByteArray}{k:Nat}(h:∀j,j<k->dM (iE l j).key key=true)(hk:Op.bytesLess (l.getD k ⟨.empty,0⟩).key.toList key.toList=true):∀j,j<k+1->dM (iE l j).key key=true:=λj hj=>by
 by_cases e:j=k
 ·subst e;exact hk
 ·exact h j (by omega)
theorem uS:∀(l:List bN) (key:ByteArray) (k:Nat),k<=l.length->(∀j,j<k->dM (iE l j).key key=true)->(k<l.length->dM (iE l k).key key=false)->aZ l key=k
 |[],key,k,hk,_,_=>by simp at hk;subst hk;rfl
 |q::l,key,0,_,_,h2=>by
  have:=h2 (by simp)
  unfold aZ;rw[if_neg (by rw[show dM q.key key=false from this];decide)]
 |q::l,key,k+1,hk,h1,h2=>by
  have:=h1 0 (by omega)
  unfold aZ
  rw[if_pos (by rw[show dM q.key key=true from this]),uS l key k (by simpa using hk) (λj hj=>h1 (j+1) (by omega)) (λhlt=>h2 (by simpa using hlt))]
theorem Va{l:List bN}{z:bN}{k:Nat}(hk:k<=l.length)(h1:∀j,j<k->dM (iE l j).key z.key=true)(h2:k<l.length->Op.bytesLess (l.getD k ⟨.empty,0⟩).key.toList z.key.toList=false):kO l z=l.take k++z::l.drop k:=by
 unfold kO;rw[uS l z.key k hk h1 h2]
end Go.Ct
namespace Go.Ct
theorem filter_all{l:List bN}{key:ByteArray}(h:∀q∈l,bR q.key key=false):cX l key=l:=by
 unfold cX;rw[List.filter_eq_self];intro q hq;rw[h q hq];rfl
theorem KI{q:bN}{l:List bN}{key:ByteArray}(h:dM q.key key=true):iZ (q::l) key=iZ l key:=by
 unfold iZ
 have e:aZ (q::l) key=aZ l key+1:=by rw[aZ,if_pos h]
 rw[e]
 simp[iE]
theorem qP(key:ByteArray):∀l:List bN,aQ l=true->cX l key=gX l key
 |[],_=>by simp[cX,gX,iZ,aZ,aQ]
 |q::l,hv=>by
  have ih:=qP key l (zZ hv)
  have hd:=Gp hv
  unfold gX at ih ⊢
  rw[if_neg (by rw[zZ hv];decide)]at ih
  rw[if_neg (by rw[hv];decide)]
  by_cases hlt:dM q.key key=true
  ·rw[KI hlt,aZ,if_pos hlt]
   have e:cX (q::l) key=q::cX l key:=by
    unfold cX;rw[AD,if_pos (by rw[OR hlt];rfl)]
   rw[e,ih]
   split<;>simp
  ·have hlt':dM q.key key=false:=by simpa using hlt
   have e0:aZ (q::l) key=0:=by rw[aZ,if_neg hlt]
   have hr:∀r∈l,bR r.key key=false:=λr hr=>by
    have h1:=hd r hr
    cases hb:bR r.key key with
    |false=>rfl
    |true=>rw[kM hb]at h1;rw[h1]at hlt';cases hlt'
   rw[e0]
   have e2:iZ (q::l) key=bR q.key key:=by unfold iZ;rw[e0];simp[iE]
   rw[e2]
   cases he:bR q.key key with
   |true=>
    rw[if_pos rfl]
    show cX (q::l) key=_
    have:cX (q::l) key=cX l key:=by unfold cX;rw[AD,if_neg (by rw[he];decide)]
    rw[this,filter_all hr];simp
   |false=>
    rw[if_neg (by decide)]
    exact filter_all λr hr'=>by
     rcases List.mem_cons.1 hr' with rfl|h
     ·exact he
     ·exact hr r h
theorem Uj{l:List bN}{key:ByteArray}(hv:aQ l=true):aZ (gX l key) key=aZ l key:=by
 unfold gX
 rw[if_neg (by rw[hv];decide)]
 by_cases hp:iZ l key=true
 ·rw[if_pos hp]
  have hp':=hp
  unfold iZ at hp'
  simp only[mQ,An]at hp'
  obtain⟨h1,h2⟩:=hp'
  refine uS _ key _ (by simp;omega) (λj hj=>?_) (λhlt=>?_)
  ·have:iE (l.take (aZ l key)++l.drop (aZ l key+1)) j=iE l j:=by
    unfold iE;rw[Fb,Fb,xD (by simp;omega),pJ,if_pos hj]
   rw[this];exact wG l key j hj
  ·simp only[cO,Hg,yM]at hlt
   have:iE (l.take (aZ l key)++l.drop (aZ l key+1)) (aZ l key)=iE l (aZ l key+1):=by
    unfold iE;rw[Fb,Fb,tW (by rw[Hg];omega),WI,Hg]
    rw[show aZ l key+1+(aZ l key-min (aZ l key) l.length)=aZ l key+1 by omega]
   rw[this]
   have h3:=Eh l hv (aZ l key) (aZ l key+1) (by omega) (by omega)
   rw[kM h2]at h3
   cases hb:dM (iE l (aZ l key+1)).key key with
   |false=>rfl
   |true=>have:=kA h3 hb;rw[mL]at this;cases this
 ·rw[if_neg hp]
theorem TG{l:List bN}(key:ByteArray)(v:Nat)(hv:aQ l=true):mC l key v=kO (cX l key) ⟨key,v⟩:=by
 rw[qP key l hv]
 unfold kO
 dsimp only
 rw[Uj hv]
 unfold mC gX
 simp only[hv,Bool.true_eq_false,↓reduceIte]
 by_cases hp:iZ l key=true
 ·rw[if_pos hp,if_pos hp]
  have hp':=hp
  unfold iZ at hp'
  simp only[mQ,An]at hp'
  obtain⟨h1,h2⟩:=hp'
  have e1:(l.take (aZ l key)++l.drop (aZ l key+1)).take (aZ l key)=l.take (aZ l key):=by
   rw[List.take_append_of_le_length (by simp;omega),uZ (by rw[Hg];omega)]
  have e2:(l.take (aZ l key)++l.drop (aZ l key+1)).drop (aZ l key)=l.drop (aZ l key+1):=by
   rw[List.drop_append_of_le_length (by simp;omega),MA (by rw[Hg];omega)];rfl
  rw[e1,e2,kM h2]
 ·rw[if_neg hp,if_neg hp]
theorem QW(a b:bN)(h:bR a.key b.key=false):kO (cX (kO (cX [] a.key) a) b.key) b=gG a b:=by
 have e1:kO (cX [] a.key) a=[a]:=by simp[cX,kO,aZ]
 have e2:cX [a] b.key=[a]:=by unfold cX;rw[AD,if_pos (by rw[h];rfl)];rfl
 rw[e1,e2]
 unfold kO gG
 cases hb:dM a.key b.key with
 |true=>
  have:dM b.key a.key=false:=by
   cases hc:dM b.key a.key with
   |false=>rfl
   |true=>have:=kA hb hc;rw[mL]at this;cases this
  simp[aZ,hb,this]
 |false=>rw[if_pos (vN hb h)];simp[aZ,hb]
end Go.Ct
namespace Go.Ct
theorem Cf(l:List bN)(z:bN):(kO l z).length<=l.length+1:=by unfold kO;simp;omega
end Go.Ct
namespace Go.Ct
def yZ(l:List bN):List bN:=l.foldl (λout q=>kO (cX out q.key) q) []
theorem ZY{l:List bN}{k:Nat}(hk:k<l.length):kO (cX (yZ (l.take k)) (l.getD k ⟨.empty,0⟩).key) (l.getD k ⟨.empty,0⟩)=yZ (l.take (k+1)):=by
 unfold yZ;rw[zX hk,List.foldl_append];rfl
theorem Sg(l:List bN):∀k,(yZ (l.take k)).length<=k
 |0=>by simp[yZ]
 |k+1=>by
  by_cases hk:k<l.length
  ·rw[<- ZY hk]
   have:=Cf (cX (yZ (l.take k)) (l.getD k ⟨.empty,0⟩).key) (l.getD k ⟨.empty,0⟩)
   have:=oR (yZ (l.take k)) (l.getD k ⟨.empty,0⟩).key
   have:=Sg l k
   omega
  ·rw[uZ (by omega)]
   have:=Sg l k
   rw[uZ (by omega)]at this
   omega
theorem MW{a b:bN}(h:bR a.key b.key=false):yZ [a,b]=gG a b:=QW a b h
end Go.Ct
end
section
namespace Go.Q9
open Go.Proofs.Tryz
open Go.RowKit Go.E Go.Ct
attribute [local irreducible] gB wpS Go.E.X XS C jU kP fin Y U F Ca jT bl rb aU bV ex ce pu sK gK bK zK
variable{B w:World}{L:List As}
theorem Iv(l:List Int)(pa pb:Option Addr)(ca cb:Nat)(h:SH B w (bV 1 (.slice pa l.length ca) l.length (l.map (Value.int .i64))::bV 1 (.slice pb l.length cb) l.length (l.map (Value.int .i64))::L))(hl:l.length<=1000000000000):
  Calls prog 74 #[.slice pa l.length ca,.slice pb l.length cb] w λe w'=>e=.returned ↑true/\SH B w' (bV 1 (.slice pa l.length ca) l.length (l.map (Value.int .i64))::bV 1 (.slice pb l.length cb) l.length (l.map (Value.int .i64))::L):=by
 refine bZ func74 ntmps74 h λw h=>?_
 refine lp (α:=Nat) (λx=>(.c 0 (.slice pa l.length ca) (.c 1 (.slice pb l.length cb) (.c 5 (.int .i64 (x:Int)) .n)))) (λx w=>SH B w (bV 1 (.slice pa l.length ca) l.length (l.map (Value.int .i64))::bV 1 (.slice pb l.length cb) l.length (l.map (Value.int .i64))::L)/\(x<=l.length)) (λx=>l.length-x) 0 ⟨rfl,rfl,rfl,trivial⟩ ⟨h,Xe _⟩ ?_
 rintro k w ⟨h,hk⟩
 refine go h λw h=>?_
 refine qc h (λhd1 w h=>?_) λhd1 w h=>?_
 have hg2:=dA hd1
 refine go h λw h=>?_
 obtain⟨b3,o4,rfl⟩:=h.fq a0 (by omega)
 obtain⟨b5,o6,rfl⟩:=h.fq a1 (by omega)
 refine dZ [1,3,5,7,9,11,13,15,17] (by kernel_rfl) h (.c r0 (.c r0 .n)) λw h=>?_
 refine tk (λW H=>mv rfl)<|tk (λW H=>mv rfl)<|tk (λW H=>ix (j:=k) iR tL rfl rfl (by omega))<|tk (λW H=>ld gI rfl ((H.rr a0).i (by omega)))<|tk (λW H=>mv rfl)<|tk (λW H=>mv rfl)<|tk (λW H=>ix (j:=k) iR tL rfl rfl (by omega))<|tk (λW H=>ld gI rfl ((H.rr a1).i (by omega)))<|tk (λW H=>bi rfl rfl rfl)<|xz<|nx<|cf rfl (uP _)<|sk<|bn<|nx<|rg<|st (mv rfl)<|st (bw rfl rfl (gN (c:=((k+1:Nat):Int)) (by omega) (by omega) (by omega)))<|st (sg rfl)<|xe<|nx<|?_
 refine go h λw h=>?_
 exact⟨(k+1),⟨rfl,rfl,rfl,trivial⟩,⟨h,by(try dsimp only);omega⟩,by(try dsimp only);omega⟩
 have hg7:=dP hd1
 refine go h λw h=>?_
 exact rz ⟨rfl,h⟩
theorem Fe(l:List Ct.bN)(pa pb:Option Addr)(ca cb:Nat)(h:SH B w (bV 2 (.slice pa l.length ca) l.length (l.flatMap aR)::bV 2 (.slice pb l.length cb) l.length (l.flatMap aR)::L))(hl:l.length<=1000000000000):
  Calls prog 108 #[.slice pa l.length ca,.slice pb l.length cb] w λe w'=>e=.returned ↑true/\SH B w' (bV 2 (.slice pa l.length ca) l.length (l.flatMap aR)::bV 2 (.slice pb l.length cb) l.length (l.flatMap aR)::L):=by
 refine bZ func108 ntmps108 h λw h=>?_
 refine lp (α:=Nat) (λx=>(.c 0 (.slice pa l.length ca) (.c 1 (.slice pb l.length cb) (.c 5 (.int .i64 (x:Int)) .n)))) (λx w=>SH B w (bV 2 (.slice pa l.length ca) l.length (l.flatMap aR)::bV 2 (.slice pb l.length cb) l.length (l.flatMap aR)::L)/\(x<=l.length)) (λx=>l.length-x) 0 ⟨rfl,rfl,rfl,trivial⟩ ⟨h,Xe _⟩ ?_
 rintro k w ⟨h,hk⟩
 refine go h λw h=>?_
 refine qc h (λhd1 w h=>?_) λhd1 w h=>?_
 have hg2:=dA hd1
 refine go h λw h=>?_
 obtain⟨b3,o4,rfl⟩:=h.fq a0 (by omega)
 obtain⟨b5,o6,rfl⟩:=h.fq a1 (by omega)
 refine dZ [1,3,5,7,9,11,13,15,17] (by kernel_rfl) h (.c r0 (.c r0 .n)) λw h=>go h λw h=>?_
 refine tk (λW H=>gJ rfl ((H.rr a0).x bH (by decide) (by omega) ⟨.empty,0⟩) Row.h)<|go h λw h=>?_
 refine tk (λW H=>gJ rfl ((H.rr a1).x bH (by decide) (by omega) ⟨.empty,0⟩) Row.h)<|tk (λW H=>XT KN rfl rfl rfl rfl)<|go h λw h=>?_
 refine cf rfl (UT (UY _ _ _))<|go h λw h=>?_
 exact⟨(k+1),⟨rfl,rfl,rfl,trivial⟩,⟨h,by(try dsimp only);omega⟩,by(try dsimp only);omega⟩
 have hg7:=dP hd1
 refine go h λw h=>?_
 exact rz ⟨rfl,h⟩
theorem lM(l:List Ct.bN)(p:Option Addr)(c:Nat)(h:SH B w (bV 2 (.slice p l.length c) l.length (l.flatMap aR)::L))(hv:Ct.aQ l=true)(hl:l.length<=1000000000000):
  Calls prog 166 #[.slice p l.length c] w λe w'=>e=.returned ↑true/\SH B w' (bV 2 (.slice p l.length c) l.length (l.flatMap aR)::L):=by
 refine bZ func166 ntmps166 h λw h=>?_
 refine lp (α:=Nat) (λx=>(.c 0 (.slice p l.length c) (.c 3 (.int .i64 (x:Int)) .n))) (λx w=>SH B w (bV 2 (.slice p l.length c) l.length (l.flatMap aR)::L)/\(1<=x)) (λx=>l.length-x) 1 ⟨rfl,rfl,trivial⟩ ⟨h,bD _⟩ ?_
 rintro k w ⟨h,h1⟩
 refine go h λw h=>?_
 refine qc h (λhd1 w h=>?_) λhd1 w h=>?_
 ·have hg2:=dA hd1
  refine go h λw h=>?_
  obtain⟨b3,o4,rfl⟩:=h.fq a0 (by omega)
  refine dZ [1,3,5,7,9,11,13,15,17,19,21,23] (by kernel_rfl) h (.c r0 .n) λw h=>go h λw h=>?_
  refine tk (λW H=>ld One.h rfl ((H.rr a0).x bH (by decide) (by omega) ⟨.empty,0⟩ 0 _ rfl))<|go h λw h=>?_
  refine tk (λW H=>bs ((k-1:Nat):Int))<|go h λw h=>?_
  refine tk (λW H=>ld One.h rfl ((H.rr a0).x bH (by decide) (by omega) ⟨.empty,0⟩ 0 _ rfl))<|go h λw h=>?_
  refine cf rfl (YG hv h1 (by omega))<|go h λw h=>?_
  exact⟨(k+1),⟨rfl,rfl,trivial⟩,⟨h,by(try dsimp only);omega⟩,by(try dsimp only);omega⟩
 ·have hg5:=dP hd1
  refine go h λw h=>?_
  exact rz ⟨rfl,h⟩
section
attribute [local semireducible] gB wpS Go.E.X XS C jU kP fin Y U F Ca jT bl rb aU bV ex ce pu sK gK bK zK
attribute [local irreducible] gB wpS
variable{B w:World}{L:List As}
theorem HK(l:List Ct.bN)(p:Option Addr)(c:Nat)(h:SH B w (bV 2 (.slice p l.length c) l.length (l.flatMap aR)::L))(hs:Ct.kS l=true)(hl:l.length<=1000000000000):
  Calls prog 196 #[.slice p l.length c] w λe w'=>e=.returned ↑true/\SH B w' (bV 2 (.slice p l.length c) l.length (l.flatMap aR)::L):=by
 refine Ea (args:=[_]) func196 rfl ntmps196 rfl ?_
 refine sq<|rg<|st (sg rfl)<|xe<|nx<|sq<|sq<|rg<|st (sg rfl)<|xe<|nx<|bk<|?_
 refine lp (α:=Nat) (λx=>(.c 0 (.slice p l.length c) (.c 3 (.int .i64 (x:Int)) .n))) (λx w=>SH B w (bV 2 (.slice p l.length c) l.length (l.flatMap aR)::L)/\(x<=l.length)) (λx=>l.length-x) 0 ⟨rfl,rfl,trivial⟩ ⟨h,Xe _⟩ ?_
 rintro k w ⟨h,hk⟩
 refine sq<|sq<|rg<|st (mv rfl)<|st (mv rfl)<|st (ln oW rfl rfl)<|st (bi rfl rfl rfl)<|xe<|nx<|?_
 rcases bI (decide (((k:Int):Int)<(l.length:Int)))with hd1|hd1
 ·have hg2:=dA hd1
  refine ct rfl hd1<|sk<|nx<|sq<|bk<|sq<|rg<|st (mv rfl)<|st (mv rfl)<|?_
  obtain⟨b3,o4,rfl⟩:=h.fq a0 (by omega)
  refine st (ix (j:=k) oW Eo rfl rfl (by omega))<|st (fa Il rfl)<|st (ld uK rfl ((h.rr a0).x bH (by decide) (by omega) ⟨.empty,0⟩ 0 _ rfl))<|st (PA Qw rfl rfl)<|st (bi rfl rfl rfl)<|xe<|nx<|cf rfl (Cj hs (by omega))<|sk<|bn<|nx<|rg<|st (mv rfl)<|st (bw rfl rfl (gN (c:=((k+1:Nat):Int)) (by omega) (by omega) (by omega)))<|st (sg rfl)<|xe<|nx<|?_
  exact⟨(k+1),⟨rfl,rfl,trivial⟩,⟨h,by(try dsimp only);omega⟩,by(try dsimp only);omega⟩
 ·have hg5:=dP hd1
  refine cf rfl hd1<|xt<|tx<|tx<|be<|nx<|sq<|rg<|st (sg rfl)<|xe<|nx<|rt<|?_
  refine rr (jP results196 rfl)<|⟨rfl,h⟩
end
variable{B w:World}{L:List As}
theorem oY(l:List Ct.bN)(p:Option Addr)(c:Nat)(key:ByteArray)(h:SH B w (bV 2 (.slice p l.length c) l.length (l.flatMap aR)::L))(hv:Ct.aQ l=true)(hl:l.length<=1000000000000):
  Calls prog 140 #[.slice p l.length c,↑key] w λe w'=>e=.returned (.tuple #[.int .u64 (((Ct.bB l key).1:Nat):Int),.bool (Ct.bB l key).2])/\SH B w' (bV 2 (.slice p l.length c) l.length (l.flatMap aR)::L):=by
 refine bZ func140 ntmps140 h λw h=>?_
 refine lp (α:=Nat) (λx=>(.c 0 (.slice p l.length c) (.c 1 (.string key) (.c 6 (.int .i64 (x:Int)) .n)))) (λx w=>SH B w (bV 2 (.slice p l.length c) l.length (l.flatMap aR)::L)/\(x<=l.length)/\(∀j,j<x->Ct.bR (Ct.iE l j).key key=false)) (λx=>l.length-x) 0 ⟨rfl,rfl,rfl,trivial⟩ ⟨h,Xe _,λj hj=>absurd hj (Nat.not_lt_zero _)⟩ ?_
 rintro k w ⟨h,hk,hn⟩
 refine go h λw h=>?_
 refine qg h (λhd1 w h=>?_) λhd1 w h=>?_
 have hg2:=dA hd1
 refine go h λw h=>?_
 refine bA (lM _ _ _ h.to hv (by omega)) λw h=>?_
 obtain⟨b3,o4,rfl⟩:=h.fq a0 (by omega)
 refine go h λw h=>?_
 refine st (ld One.h rfl ((h.rr a0).x bH (by decide) (by omega) ⟨.empty,0⟩ 0 _ rfl))<|go h λw h=>?_
 refine qc h (λhd5 w h=>?_) λhd5 w h=>?_
 refine st (ld One.h rfl ((h.rr a0).x bH (by decide) (by omega) ⟨.empty,0⟩ 1 _ rfl))<|go h λw h=>?_
 exact rr (gE rfl rfl rfl)<|⟨by rw[KK hv (by omega) hd5];rfl,h⟩
 exact⟨(k+1),⟨rfl,rfl,rfl,trivial⟩,⟨h,by(try dsimp only);omega,TD hn hd5⟩,by(try dsimp only);omega⟩
 have hg6:=dP hd1
 refine go h λw h=>?_
 exact rr (gE rfl rfl rfl)<|⟨by rw[BU hv λj hj=>hn j (by omega)];rfl,h⟩
theorem zH(l:List Ct.bN)(p:Option Addr)(c:Nat)(key:ByteArray)(h:SH B w (bV 2 (.slice p l.length c) l.length (l.flatMap aR)::L))(hl:l.length<=1000000000000):
  Calls prog 198 #[.slice p l.length c,↑key] w λe w'=>∃p' c',e=.returned (.slice p' (Ct.cX l key).length c')/\SH B w' (bV 2 (.slice p' (Ct.cX l key).length c') (Ct.cX l key).length ((Ct.cX l key).flatMap aR)::bV 2 (.slice p l.length c) l.length (l.flatMap aR)::L):=by
 refine bZ func198 ntmps198 h λw h=>?_
 have h:=SH.nil 150 2 h
 refine lp (α:=Nat×List Ct.bN×Nat×Option Addr×Nat) (λx=>(.c 0 (.slice p l.length c) (.c 1 (.string key) (.c 5 (.slice x.2.2.2.1 x.2.2.1 x.2.2.2.2) (.c 6 (.int .i64 (x.1:Int)) .n))))) (λx w=>SH B w (aU 150 2 (.slice x.2.2.2.1 x.2.2.1 x.2.2.2.2) x.2.2.1 (x.2.1.flatMap aR)::bV 2 (.slice p l.length c) l.length (l.flatMap aR)::L)/\(x.1<=l.length)/\(x.2.1.length=x.2.2.1)/\(x.2.2.1<=x.1)/\(x.2.1=(l.take x.1).filter λq=>!Ct.bR q.key key)) (λx=>l.length-x.1) (0,[],0,none,0) ⟨rfl,rfl,rfl,rfl,trivial⟩ ⟨h,Xe _,rfl,bD _,rfl⟩ ?_
 rintro⟨k,out,n,q,cq⟩ w ⟨h,hk,hn,hnk,hW⟩
 dsimp only at *
 refine go h λw h=>?_
 refine qc h (λhd1 w h=>?_) λhd1 w h=>?_
 have hg2:=dA hd1
 refine go h λw h=>?_
 obtain⟨b3,o4,rfl⟩:=h.fq a1 (by omega)
 refine go h λw h=>?_
 refine st (ld One.h rfl ((h.rr a1).x bH (by decide) (by omega) ⟨.empty,0⟩ 0 _ rfl))<|go h λw h=>?_
 refine qc h (λhd5 w h=>?_) λhd5 w h=>?_
 refine st (gJ rfl ((h.rr a1).x bH (by decide) (by omega) ⟨.empty,0⟩) Row.h)<|go h λw h=>?_
 refine sf (bu (aR (l.getD k ⟨.empty,0⟩)) h fR.h Ss.h rfl (by kernel_rfl) rfl (by decide) (by decide)) ?_
 rintro _ w ⟨b6,rfl,h⟩
 refine go h λw h=>?_
 refine sf (ap h fR.h rfl Ss.h rfl (by decide) rfl rfl (λ_=>u1) (h.ro a0) (λu hu=>List.all_eq_true.1 (eU _) u hu) rfl (fW _ _) (by unfold maxLen;omega) (by omega)) ?_
 rintro _ w ⟨p7,c8,rfl,h⟩
 refine go h λw h=>?_
 exact⟨(k+1,out++[l.getD k ⟨.empty,0⟩],n+1,p7,c8),⟨rfl,rfl,rfl,rfl,trivial⟩,⟨h.drop,by(try dsimp only);omega,by simp[hn],by(try dsimp only);omega,by rw[hW];exact A4 (by omega) hd5⟩,by(try dsimp only);omega⟩
 exact⟨(k+1,out,n,q,cq),⟨rfl,rfl,rfl,rfl,trivial⟩,⟨h,by(try dsimp only);omega,hn,by(try dsimp only);omega,by rw[hW];exact A3 (by omega) hd5⟩,by(try dsimp only);omega⟩
 have hg9:=dP hd1
 refine go h λw h=>?_
 refine rz ?_
 have e1:out=Ct.cX l key:=by rw[hW,uZ (by omega)];rfl
 subst e1;subst hn
 exact⟨_,_,rfl,(h).fz⟩
theorem EH(l:List Ct.bN)(p:Option Addr)(c:Nat)(z:Ct.bN)(h:SH B w (bV 2 (.slice p l.length c) l.length (l.flatMap aR)::L))(hl:l.length<=1000000000000):
  Calls prog 197 #[.slice p l.length c,.agg (aR z).toArray] w λe w'=>∃p' c',e=.returned (.slice p' (Ct.kO l z).length c')/\SH B w' (bV 2 (.slice p' (Ct.kO l z).length c') (Ct.kO l z).length ((Ct.kO l z).flatMap aR)::bV 2 (.slice p l.length c) l.length (l.flatMap aR)::L):=by
 refine bZ func197 ntmps197 h λw h=>?_
 refine jX h λb1 w h=>?_
 have h:=SH.nil 150 2 h
 refine lp (α:=Nat×List Ct.bN×Nat×Option Addr×Nat) (λx=>(.c 0 (.slice p l.length c) (.c 3 ↑b1 (.c 5 (.slice x.2.2.2.1 x.2.2.1 x.2.2.2.2) (.c 6 (.int .i64 (x.1:Int)) .n))))) (λx w=>SH B w (aU 150 2 (.slice x.2.2.2.1 x.2.2.1 x.2.2.2.2) x.2.2.1 (x.2.1.flatMap aR)::bV 2 (.slice p l.length c) l.length (l.flatMap aR)::bl b1 (aR z) 150::L)/\(x.1<=l.length)/\(x.2.1.length=x.2.2.1)/\(x.2.2.1=x.1)/\(x.2.1=l.take x.1)/\(∀j,j<x.1->Ct.dM (Ct.iE l j).key z.key=true)) (λx=>l.length-x.1) (0,[],0,none,0) ⟨rfl,rfl,rfl,rfl,trivial⟩ ⟨h.to,Xe _,rfl,rfl,rfl,λj hj=>absurd hj (Nat.not_lt_zero _)⟩ ?_
 rintro⟨k,out,n,q,cq⟩ w ⟨h,hk,hn,hnk,hW,hb⟩
 dsimp only at *
 refine go h λw h=>?_
 rcases bI (decide (((k:Int):Int)<(l.length:Int)))with hd2|hd2<;>refine go h λw h=>?_
 have hg3:=dA hd2
 obtain⟨b4,o5,rfl⟩:=h.fq a1 (by omega)
 refine dZ [1,3,5,7,9,11,13,15,17,19,21,23,25,27] (by kernel_rfl) h (.c r1 (.c r1 .n)) λw h=>go h λw h=>?_
 refine tk (λW H=>ld One.h rfl ((H.rr a0).x bH (by decide) (by omega) ⟨.empty,0⟩ 0 _ rfl))<|go h λw h=>?_
 refine qc h (λhd6 w h=>?_) λhd6 w h=>?_
 refine st (gJ rfl ((h.rr a1).x bH (by decide) (by omega) ⟨.empty,0⟩) Row.h)<|go h λw h=>?_
 refine sf (bu (aR (l.getD k ⟨.empty,0⟩)) h fR.h Ss.h rfl (by kernel_rfl) rfl (by decide) (by decide)) ?_
 rintro _ w ⟨b7,rfl,h⟩
 refine go h λw h=>?_
 refine sf (ap h fR.h rfl Ss.h rfl (by decide) rfl rfl (λ_=>u1) (h.ro a0) (λu hu=>List.all_eq_true.1 (eU _) u hu) rfl (fW _ _) (by unfold maxLen;omega) (by omega)) ?_
 rintro _ w ⟨p8,c9,rfl,h⟩
 refine go h λw h=>?_
 exact⟨(k+1,out++[l.getD k ⟨.empty,0⟩],n+1,p8,c9),⟨rfl,rfl,rfl,rfl,trivial⟩,⟨h.drop,by(try dsimp only);omega,by simp[hn],by(try dsimp only);omega,by rw[hW];exact(zX (by omega)).symm,TM hb hd6⟩,by(try dsimp only);omega⟩
 refine dZ [1,3,9,11,13,4,6,14,16] (by kernel_rfl) h (.c r2 .n) λw h=>go h λw h=>?_
 refine tk (λW H=>YD (k:=n) fR.h Sz.h rfl rfl (by omega) (h.MS a1))<|go h λw h=>?_
 have h:=h.tl (k:=n) a1 (by omega)
 rw[rZ bH]at h
 refine ff (bu (aR z) h fR.h Ss.h rfl (by kernel_rfl) rfl (by decide) (by decide)) ?_
 rintro _ w ⟨b10,rfl,h⟩
 refine gz h λw h=>?_
 refine ff (ap h fR.h rfl Ss.h rfl (by decide) rfl rfl (λ_=>u2) (h.ro a0) (λu hu=>List.all_eq_true.1 (eU _) u hu) rfl (fW _ _) (by unfold maxLen;omega) (by omega)) ?_
 rintro _ w ⟨p11,c12,rfl,h⟩
 refine gz h λw h=>?_
 refine ff (XN h a1 a2 fR.h rfl Ss.h rfl (by decide) rfl rfl (λ_=>u2) (lU eU _) rfl List.flatMap_append.symm (by unfold maxLen;omega) (by omega)) ?_
 rintro _ w ⟨p13,c14,rfl,h⟩
 refine gz h λw h=>?_
 refine rz ?_
 subst hnk
 have e1:=Va (l:=l) (z:=z) (by omega) hb (λhlt=>by exact hd6)
 have e2:out++[z]++l.drop n=Ct.kO l z:=by rw[e1,hW];simp
 have e3:n+1+(l.length-n)=(Ct.kO l z).length:=by rw[<- e2];simp[hn];omega
 have h:=((h.fr (.c r0 (.c r0 (.c r2 .n)))).drop.drop.drop).fz
 rw[show out++[z]++(l.drop n)=out++[z]++l.drop n from by simp]at h
 rw[e2]at h;rw[e3]at h ⊢;exact⟨_,_,rfl,h⟩
 have hg15:=dP hd2
 refine dZ [1,3,5,7,9,11,13,15,17,19,21,23,25,27] (by kernel_rfl) h .n λw h=>go h λw h=>?_
 refine dZ [1,3,9,11,13,4,6,14,16] (by kernel_rfl) h (.c r2 .n) λw h=>go h λw h=>?_
 refine tk (λW H=>YD (k:=n) fR.h Sz.h rfl rfl (by omega) (h.MS a1))<|go h λw h=>?_
 have h:=h.tl (k:=n) a1 (by omega)
 rw[rZ bH]at h
 refine ff (bu (aR z) h fR.h Ss.h rfl (by kernel_rfl) rfl (by decide) (by decide)) ?_
 rintro _ w ⟨b16,rfl,h⟩
 refine gz h λw h=>?_
 refine ff (ap h fR.h rfl Ss.h rfl (by decide) rfl rfl (λ_=>u2) (h.ro a0) (λu hu=>List.all_eq_true.1 (eU _) u hu) rfl (fW _ _) (by unfold maxLen;omega) (by omega)) ?_
 rintro _ w ⟨p17,c18,rfl,h⟩
 refine gz h λw h=>?_
 refine ff (XN h a1 a2 fR.h rfl Ss.h rfl (by decide) rfl rfl (λ_=>u2) (lU eU _) rfl List.flatMap_append.symm (by unfold maxLen;omega) (by omega)) ?_
 rintro _ w ⟨p19,c20,rfl,h⟩
 refine gz h λw h=>?_
 refine rz ?_
 subst hnk
 have e1:=Va (l:=l) (z:=z) (by omega) hb (λhlt=>by omega)
 have e2:out++[z]++l.drop n=Ct.kO l z:=by rw[e1,hW];simp
 have e3:n+1+(l.length-n)=(Ct.kO l z).length:=by rw[<- e2];simp[hn];omega
 have h:=((h.fr (.c r0 (.c r0 (.c r2 .n)))).drop.drop.drop).fz
 rw[show out++[z]++(l.drop n)=out++[z]++l.drop n from by simp]at h
 rw[e2]at h;rw[e3]at h ⊢;exact⟨_,_,rfl,h⟩
theorem WR(l:List Ct.bN)(p:Option Addr)(c:Nat)(key:ByteArray)(v:Nat)(h:SH B w (bV 2 (.slice p l.length c) l.length (l.flatMap aR)::L))(hv:Ct.aQ l=true)(hl:l.length<=1000000000000):
  Calls prog 184 #[.slice p l.length c,↑key,.int .u64 (v:Int)] w λe w'=>∃p' c',e=.returned (.slice p' (Ct.mC l key v).length c')/\SH B w' (bV 2 (.slice p' (Ct.mC l key v).length c') (Ct.mC l key v).length ((Ct.mC l key v).flatMap aR)::bV 2 (.slice p l.length c) l.length (l.flatMap aR)::L):=by
 refine bZ func184 ntmps184 h λw h=>?_
 refine bA (lM _ _ _ h.to hv (by omega)) λw h=>?_
 refine Sd (zH _ _ _ _ h.to (by omega)) λq1 c2 w h=>?_
 have:=oR l key
 refine go h λw h=>?_
 refine Sd (EH _ _ _ (⟨key,v⟩:Ct.bN) h.to (by omega)) λq3 c4 w h=>?_
 have:=Cf (Ct.cX l key) (⟨key,v⟩:Ct.bN)
 refine go h λw h=>?_
 refine rz ?_
 rw[TG key v hv];exact⟨_,_,rfl,(h.fr (.c r1 .n)).drop⟩
theorem SW(l:List Ct.bN)(p:Option Addr)(c:Nat)(key:ByteArray)(h:SH B w (bV 2 (.slice p l.length c) l.length (l.flatMap aR)::L))(hv:Ct.aQ l=true)(hl:l.length<=1000000000000):
  Calls prog 186 #[.slice p l.length c,↑key] w λe w'=>∃p' c',e=.returned (.slice p' (Ct.gX l key).length c')/\SH B w' (bV 2 (.slice p' (Ct.gX l key).length c') (Ct.gX l key).length ((Ct.gX l key).flatMap aR)::bV 2 (.slice p l.length c) l.length (l.flatMap aR)::L):=by
 refine bZ func186 ntmps186 h λw h=>?_
 refine bA (lM _ _ _ h.to hv (by omega)) λw h=>?_
 refine Sd (zH _ _ _ _ h.to (by omega)) λq1 c2 w h=>?_
 have:=oR l key
 refine go h λw h=>?_
 refine rz ?_
 rw[<- qP key l hv];exact⟨_,_,rfl,h⟩
theorem ZU(l:List Ct.bN)(p:Option Addr)(c:Nat)(h:SH B w (bV 2 (.slice p l.length c) l.length (l.flatMap aR)::L))(hl:l.length<=1000000000):
  Calls prog 200 #[.slice p l.length c] w λe w'=>∃p' c',e=.returned (.slice p' (Ct.yZ l).length c')/\SH B w' (bV 2 (.slice p' (Ct.yZ l).length c') (Ct.yZ l).length ((Ct.yZ l).flatMap aR)::bV 2 (.slice p l.length c) l.length (l.flatMap aR)::L):=by
 refine bZ func200 ntmps200 h λw h=>?_
 have h:=SH.nil 150 2 h
 have h:=h.fz
 refine lp (α:=Nat×List Ct.bN×Nat×Option Addr×Nat) (λx=>(.c 0 (.slice p l.length c) (.c 3 (.slice x.2.2.2.1 x.2.2.1 x.2.2.2.2) (.c 4 (.int .i64 (x.1:Int)) .n)))) (λx w=>SH B w (bV 2 (.slice x.2.2.2.1 x.2.2.1 x.2.2.2.2) x.2.2.1 (x.2.1.flatMap aR)::bV 2 (.slice p l.length c) l.length (l.flatMap aR)::L)/\(x.1<=l.length)/\(x.2.1.length=x.2.2.1)/\(x.2.1=yZ (l.take x.1))) (λx=>l.length-x.1) (0,[],0,none,0) ⟨rfl,rfl,rfl,trivial⟩ ⟨h,Xe _,rfl,rfl⟩ ?_
 rintro⟨k,out,n,q,cq⟩ w ⟨h,hk,hn,hW⟩
 dsimp only at *
 refine go h λw h=>?_
 refine qc h (λhd1 w h=>?_) λhd1 w h=>?_
 have hg2:=dA hd1
 refine go h λw h=>?_
 have hb:=Sg l k
 rw[<- hW]at hb
 subst hn
 obtain⟨b3,o4,rfl⟩:=h.fq a1 (by omega)
 refine dZ [1,3,5,7,9,11,15,17,19,21,12,22,24] (by kernel_rfl) h (.c r1 .n) λw h=>go h λw h=>?_
 refine tk (λW H=>ld One.h rfl ((H.rr a0).x bH (by decide) (by omega) ⟨.empty,0⟩ 0 _ rfl))<|go h λw h=>?_
 refine tk (λW H=>gJ rfl ((H.rr a0).x bH (by decide) (by omega) ⟨.empty,0⟩) Row.h)<|go h λw h=>?_
 refine AN (zH _ _ _ _ h.to (by omega)) λq5 c6 w h=>?_
 have:=oR out ((l.getD k ⟨.empty,0⟩).key)
 refine AN (EH _ _ _ (l.getD k ⟨.empty,0⟩) h.to (by omega)) λq7 c8 w h=>?_
 have:=Cf (Ct.cX out ((l.getD k ⟨.empty,0⟩).key)) (l.getD k ⟨.empty,0⟩)
 refine go h λw h=>?_
 exact⟨(k+1,Ct.kO (Ct.cX out ((l.getD k ⟨.empty,0⟩).key)) (l.getD k ⟨.empty,0⟩),(Ct.kO (Ct.cX out ((l.getD k ⟨.empty,0⟩).key)) (l.getD k ⟨.empty,0⟩)).length,q7,c8),⟨rfl,rfl,rfl,trivial⟩,⟨h.to,by(try dsimp only);omega,rfl,by rw[hW];exact ZY (by omega)⟩,by(try dsimp only);omega⟩
 have hg9:=dP hd1
 refine go h λw h=>?_
 refine rz ?_
 have e1:out=yZ l:=by rw[hW,uZ (by omega)]
 subst e1;subst hn
 exact⟨_,_,rfl,h⟩
end Go.Q9
end
