/- Parts of a proof: E14, Ayq, Pz3, Ayr. -/
import Derived.Test.YtlpbjpanggcbbaaGreatW41
set_option linter.unusedVariables false
set_option linter.unusedSimpArgs false
set_option maxRecDepth 100000
set_option maxHeartbeats 4000000
section
namespace Go.E
open Go.RowKit
variable{B w:World}{L:List As}{P:Program}{n:Nat}{K:iG}{e:Tm}{ops:Array Oper}{l:List Oper}
variable{L':List As}{d:Option Tmp}{ty:TypeId}{ps:String}{af:Array Edge}{g:Option (Nat×Bool)}
theorem KW(w:World)(dT sT ty elem:TypeId)(i:TypeInfo)(dp sp:Option Addr)(dl dc sl sc:Nat)(hu:P.underlying dT=some (.slice elem))(hi:P.info? elem=some i)(hn:Nat.min sl dl=0):
  (Builtin.copy_ #[dT,sT] ty #[.slice dp dl dc,.slice sp sl sc]).run P w=.ok (goInt 0) w:=by
 have hl:∀(x:Addr),(loadCells x 0).run P w=.ok #[] w:=λx=>by simpa using run_loadCells_list (P:=P) w x [] (by simp)
 cases dp<;>cases sp<;>simp[Builtin.copy_,run_underlying hu,Builtin.lenOf,Builtin.firstCells,sizeOf,typeInfo,hi,hn,storeCells,hl]
theorem KV(w:World)(dT sT ty elem:TypeId)(i:TypeInfo)(size:Nat)(gb o m dl dc sc:Nat)(a:Addr)(cur:Array Value)(t:TypeId)(cs:List Value)
  (hu:P.underlying dT=some (.slice elem)) (hi:P.info? elem=some i) (hs:i.size=size)
  (hg:w.heap[gb]?=some (.cells cur t (0,0))) (hn:cs.length=m*size) (hc:o+cs.length<=cur.size) (hml:m<=dl)
  (hsrc:∀j v,cs[j]?=some v->w.cell? (a.add j)=some v) (h1:∀v∈cs,v.oneCell'=true):
  (Builtin.copy_ #[dT,sT] ty #[.slice (some ⟨gb,o,none⟩) dl dc,.slice (some a) m sc]).run P w=.ok (goInt m) (w.setRow gb (cur.toList.take o++cs++cur.toList.drop (o+cs.length)).toArray):=by
 have hl:=run_firstCells_some (P:=P) w size m a m sc cs hn hsrc
 have hst:=run_storeCells_at P gb o t cs 0 cur w hg (by omega) h1
 rw[KQ]at hst
 have hmin:Nat.min m dl=m:=Hg hml
 simp[Builtin.copy_,run_underlying hu,Builtin.lenOf,sizeOf,typeInfo,hi,hs,hmin,hl,hst]
theorem Kk{α:Type}{enc:α->List Value}{sz:Nat}(he:∀x,(enc x).length=sz):∀(xs:List α) (k:Nat),(xs.flatMap enc).take (k*sz)=(xs.take k).flatMap enc
 |[],k=>by simp
 |x::xs,0=>by simp
 |x::xs,k+1=>by
  rw[Fb,List.take_succ_cons,Fb,<- Kk he xs k,List.take_append,he x,Nat.succ_mul,RF (by rw[he x];omega),Nat.add_sub_cancel]
def TB(xs:List Value)(o:Nat)(ys:List Value):List Value:=xs.take o++ys++xs.drop (o+ys.length)
theorem SF(xs:List Value)(o:Nat)(ys:List Value)(h:o+ys.length<=xs.length):(TB xs o ys).length=xs.length:=by unfold TB;simp;omega
theorem LN{cur xs ys:List Value}{o m:Nat}(h:cur.take m=xs)(hm:o+ys.length<=m)(hc:m<=cur.length):(cur.take o++ys++cur.drop (o+ys.length)).take m=TB xs o ys:=by
 subst h
 unfold TB
 have hl:(cur.take o++ys).length=o+ys.length:=by rw[tW,dF,Hg (by omega)]
 rw[List.take_append,hl,RF (by rw[hl];exact hm),List.take_take,Hg (by omega),List.drop_take]
theorem ZW{dT sT el:TypeId}{x y:Operand}{sz m b c k n' dl dc c2:Nat}{dp sp:Option Addr}{xs ys:List Value}{L':List As}(h:SH B w L)(mr:At L (bV sz (.slice sp m c2) m ys))(ht:P.underlying dT=some (.slice el))(hs:(P.info? el).map (·.size)=some sz)
  (hx:ev n e x=some (.slice dp dl dc)) (hy:ev n e y=some (.slice sp m c2)) (up:sJ L L' (aU el sz (.slice (some ⟨b,0,none⟩) n' c) n' xs) (aU el sz (.slice (some ⟨b,0,none⟩) n' c) n' (TB xs (k*sz) ys)))
  (hdp:0<m->dp=some ⟨b,k*sz,none⟩) (hml:m<=dl) (hk:k+m<=n') (h1:∀u∈ys,Value.oneCell' u=true):
  F P n e ⟨d,.call ⟨.builtin .copy,#[x,y],#[dT,sT]⟩,ty,ps,af,g⟩ w λv w'=>v=.int .i64 m/\SH B w' L':=by
 cases hq:P.info? el with
 |none=>rw[hq]at hs;cases hs
 |some inf=>
  rw[hq]at hs
  have hz:inf.size=sz:=by simpa using hs
  obtain⟨_,_,hA⟩:=h.at_ mr
  have hyl:=hA.1.1
  by_cases h0:m=0
  ·subst h0
   have hy0:ys=[]:=Bq (by rw[hyl];omega)
   subst hy0
   have hrun:=KW (P:=P) w dT sT ty el inf dp sp dl dc 0 c2 ht hq (Nat.zero_min _)
   refine⟨.int .i64 (0:Nat),w,.inl λa ha=>?_,rfl,?_⟩
   ·have e1:=ha.eval hx
    have e2:=ha.eval hy
    simp only[execOp,resolve,invoke,builtin,List.map_toArray,GL,List.map_nil,e1,e2,Sem.run_bind,Sem.run_pure,Result.andThen_ok,hrun]
    rfl
   ·have e:TB xs (k*sz) []=xs:=by unfold TB;simp
    rw[e]at up
    exact h.step up λO R hA'=>⟨O,R,hA',Kp.refl _ _,λk hk=>.inl hk,λk hk=>.inr (.inl hk)⟩
  ·have hd:=hdp (by omega)
   subst hd
   rcases hA.1.2 with⟨h2,h3⟩|⟨b3,o3,cap,h2,hb,h3,h4,h5⟩
   ·omega
   ·injection h2 with h2 h6 h7
    subst h2 h7
    obtain⟨m0,m1,m2,_⟩:=up.ix
    have hm:At L (aU el sz (.slice (some ⟨b,0,none⟩) n' c) n' xs):=by
     have:∀{L L':List As} {A A':As},sJ L L' A A'->At L A:=λu=>by
      induction u with
      |z=>exact .z
      |s _ ih=>exact .s ih
     exact this up
    obtain⟨_,_,hO⟩:=h.at_ hm
    rcases hO.1.2 with⟨h2,_⟩|⟨g',cap,cur,h2,hgb,hg,hc,hml2,hcs,htk⟩
    ·cases h2
    ·injection h2 with h2 h6 h7
     injection h2 with h2
     injection h2 with h2 h8
     subst h2 h7
     have hxl:=hO.1.1
     have hmul:k*sz+ys.length<=n'*sz:=by rw[hyl,<- Nat.add_mul];exact jI _ hk
     have hcap:n'*sz<=cur.size:=by rw[hcs];exact jI _ hc
     have hrun:=KV (P:=P) w dT sT ty el inf sz b (k*sz) m dl dc c2 ⟨b3,o3,none⟩ cur el ys ht hq hz hg hyl (by omega) hml (λj v hj=>by rw[mP];exact h5 j v hj) h1
     refine⟨.int .i64 m,w.setRow b (cur.toList.take (k*sz)++ys++cur.toList.drop (k*sz+ys.length)).toArray,.inl λa ha=>?_,rfl,?_⟩
     ·have e1:=ha.eval hx
      have e2:=ha.eval hy
      simp only[execOp,resolve,invoke,builtin,List.map_toArray,GL,List.map_nil,e1,e2,Sem.run_bind,Sem.run_pure,Result.andThen_ok,hrun]
      rfl
     ·refine h.step up λO R hA'=>⟨O,R,⟨⟨by rw[SF _ _ _ (by rw[hxl];exact hmul)];exact hxl,.inr ⟨b,c,(cur.toList.take (k*sz)++ys++cur.toList.drop (k*sz+ys.length)).toArray,rfl,hgb,setRow_heap w b cur _ el _ hg,hc,hml2,?_,?_⟩⟩,hA'.2⟩,⟨⟨rfl,rfl,rfl⟩,by simp[World.setRow],λk hk hne=>setRow_other w b k _ (λe=>hne ((hA'.2.1 k).2 (by rw[e];rfl)))⟩,λk hk=>.inl hk,λk hk=>.inr (.inl hk)⟩
      ·simp;omega
      ·exact LN htk (by omega) (by simp;omega)
theorem i7{b c k sz:Nat}(h:k≠c):tl (some ⟨b,0,none⟩) c k sz=some ⟨b,k*sz,none⟩:=by
 unfold tl;rw[if_neg (λe=>h e.symm)];simp[Addr.add];intro e;exact e.symm
theorem Fy{α:Type}{enc:α->List Value}{sz:Nat}(he:∀x,(enc x).length=sz)(xs ys:List α)(k:Nat):TB (xs.flatMap enc) (k*sz) (ys.flatMap enc)=(xs.take k++ys++xs.drop (k+ys.length)).flatMap enc:=by
 unfold TB
 rw[List.flatMap_append,List.flatMap_append,<- rZ he,uL he,<- Nat.add_mul,<- Kk he]
theorem N4{t el:TypeId}{x y:Operand}{b c m i o sz:Nat}{q:IntKind}{a:Int}{xs:List Value}(h:SH B w L)(hT:(P.info? t).map (·.size)=some 1)(hx:ev n e x=some (.pointer (some ⟨b,0+i*sz+o,none⟩)))(hy:ev n e y=some (.int q a))(hj:i*sz+o<m*sz)
  (up:sJ L L' (aU el sz (.slice (some ⟨b,0,none⟩) m c) m xs) (aU el sz (.slice (some ⟨b,0,none⟩) m c) m (xs.set (i*sz+o) (.int q a)))):F P n e ⟨d,.store t x y,ty,ps,af,g⟩ w λ_ w'=>SH B w' L':=by
 rw[Xb]at hx
 generalize i*sz+o=j at hx hj up
 obtain⟨mm,m0,m1,_⟩:=up.ix
 have hown:w.ownsRow 0 el sz (.slice (some ⟨b,0,none⟩) m c) m xs:=by obtain⟨_,O,R,hp,_⟩:=h;exact(hp mm _ m1).1
 obtain⟨o1,o2⟩:=hown.stored j (.int q a)
 refine⟨undef,w.setCell ⟨b,j,none⟩ (.int q a),.inr ⟨λf hf=>?_,rfl⟩,Hq h up o2 o1 λk hk=>.inl hk⟩
 have hc:=World.ownsRow.cellAt hown j hj
 have hfz:=World.ownsRow.frozenAt hown j
 rw[DM (by rw[hown.1];exact hj)]at hc
 cases hq:P.info? t with
 |none=>rw[hq]at hT;cases hT
 |some i=>
  rw[hq]at hT
  have h4:i.size=1:=by simpa using hT
  have h5:(⟨b,j,none⟩:Addr).add 0=⟨b,j,none⟩:=rfl
  simp[execOp,hf.eval hx,hf.eval hy,Instr.storeAt,Instr.sureAddr,storeVar,sizeOf,typeInfo,hq,h4,Value.cells,storeCells,store,Sem.run,h5,hc,hfz]
end Go.E
end
section
namespace Go.Q9
open Go.Proofs.Tryz
open Go.E
end Go.Q9
end
section
namespace Go.Q9
open Go.Proofs.Tryz
open Go.RowKit Go.E Go.Ct
attribute [local irreducible] gB wpS Go.E.X XS C jU kP fin Y U F Ca jT bl rb aU bV ex ce pu sK gK bK zK gM fO dH gP nE
theorem N8{B w w':World}{L:List As}(h:SH B w L)(hb:Below w.heap.size w w'):SH B w' L:=(h.new (A:=bE []) ⟨⟨hb.os,hb.tape,hb.output⟩,hb.size,λk hk _=>hb.block k hk⟩ (O:=λ_=>False) (R:=λ_=>False) ⟨λ_ h=>h,(λz hz=>by cases hz),λ_ h=>h.elim⟩ (λ_ h=>h.elim) (λ_ h=>h.elim)).drop
section
attribute [local semireducible] gB wpS Go.E.X XS C jU kP fin Y U F Ca jT bl rb aU bV ex ce pu sK gK bK zK gM fO dH gP nE
variable{B w:World}{L:List As}
theorem Uq(l:List Ct.bN)(p:Option Addr)(c:Nat)(key:ByteArray)(h:SH B w (bV 2 (.slice p l.length c) l.length (l.flatMap aR)::L))(hv:Ct.aQ l=true)(hl:l.length<=1000000000000):
  Calls prog 202 #[.slice p l.length c,↑key,.func (.func 203) #[] #[]] w λe w'=>e=.returned (.tuple #[.int .i64 (Ct.aZ l key:Nat),.bool (Ct.iZ l key)])/\SH B w' (bV 2 (.slice p l.length c) l.length (l.flatMap aR)::L):=by
 obtain⟨_,_,hr⟩:=h.at_ a0
 refine(LF w p c l key (λj hj=>?_) hl hv).mono ?_
 ·rcases hr.1.2 with⟨h1,h2⟩|⟨b,o,cap,h1,hb,h3,h4,h5⟩
  ·omega
  ·injection h1 with h1
   have hg:l[j]?=some (Ct.iE l j):=by unfold Ct.iE;rw[Tx,DM hj];rfl
   refine⟨b,o,h1,hb,?_,?_⟩
   ·exact h5 (j*2) _ (by have:=vQ bH l j 0 _ hg (by decide);simpa[aR]using this)
   ·rw[Nat.add_assoc];exact h5 (j*2+1) _ (by have:=vQ bH l j 1 _ hg (by decide);simpa[aR]using this)
 ·rintro e w' ⟨rfl,hb⟩;exact⟨rfl,N8 h hb⟩
end
variable{B w:World}{L:List As}
theorem xI(l:List Ct.bN)(p:Option Addr)(c:Nat)(key:ByteArray)(h:SH B w (bV 2 (.slice p l.length c) l.length (l.flatMap aR)::L))(hv:Ct.aQ l=true)(hl:l.length<=150000000000):
  Calls prog 148 #[.slice p l.length c,↑key] w λe w'=>e=.returned (.tuple #[.int .i64 ((Ct.aZ l key:Nat):Int),.bool (Ct.iZ l key)])/\SH B w' (bV 2 (.slice p l.length c) l.length (l.flatMap aR)::L):=by
 refine bZ func148 ntmps148 h λw h=>?_
 refine bA (Uq _ _ _ _ h.to hv (by omega)) λw h=>?_
 exact rr (gE rfl rfl rfl)<|⟨rfl,h⟩
theorem WU{l:List Ct.bN}{key:ByteArray}(hv:Ct.aQ l=true)(h:Ct.iZ l key=true):Ct.bB l key=((l.getD (Ct.aZ l key) ⟨.empty,0⟩).value,true):=by unfold Ct.bB;rw[hv,h];rfl
theorem ZL{l:List Ct.bN}{key:ByteArray}(h:Ct.iZ l key=false):Ct.bB l key=(0,false):=by unfold Ct.bB;rw[h,Bool.and_false];rfl
theorem Gc{l:List Ct.bN}{key:ByteArray}(h:Ct.iZ l key=true):Ct.aZ l key<l.length:=by unfold Ct.iZ at h;simp only[Qb,fU]at h;exact h.1
theorem Hp(l:List Ct.bN)(p:Option Addr)(c:Nat)(key:ByteArray)(h:SH B w (bV 2 (.slice p l.length c) l.length (l.flatMap aR)::L))(hv:Ct.aQ l=true)(hl:l.length<=150000000000):
  Calls prog 103 #[.slice p l.length c,↑key] w λe w'=>e=.returned (.tuple #[.int .u64 (((Ct.bB l key).1:Nat):Int),.bool (Ct.bB l key).2])/\SH B w' (bV 2 (.slice p l.length c) l.length (l.flatMap aR)::L):=by
 refine bZ func103 ntmps103 h λw h=>?_
 refine bA (oF _ _ _ h.to hv (by omega)) λw h=>?_
 refine bA (xI _ _ _ _ h.to hv (by omega)) λw h=>?_
 refine qc h (λhd1 w h=>?_) λhd1 w h=>?_
 have hd2:(Ct.iZ l key)=false:=(xE _).mp hd1
 refine go h λw h=>?_
 exact rr (gE rfl rfl rfl)<|⟨by rw[ZL hd2];rfl,h⟩
 have hd3:(Ct.iZ l key)=true:=(cW _).mp hd1
 refine go h λw h=>?_
 have hlt:=Gc hd3
 refine go h λw h=>?_
 obtain⟨b4,o5,rfl⟩:=h.fq a0 (by omega)
 refine go h λw h=>?_
 refine st (ld One.h rfl ((h.rr a0).x bH (by decide) (by omega) ⟨.empty,0⟩ 1 _ rfl))<|go h λw h=>?_
 exact rr (gE rfl rfl rfl)<|⟨by rw[WU hv hd3],h⟩
theorem YR(l:List Ct.bN):∀(i v:Nat),i<l.length->(l.flatMap aR).set (i*2+1) (.int .u64 (v:Int))=(l.set i ⟨(l.getD i ⟨.empty,0⟩).key,v⟩).flatMap aR:=by
 induction l with
 |nil=>intro i v h;simp at h
 |cons q l ih=>
  intro i v h
  cases i with
  |zero=>rfl
  |succ i=>
   have h2:=ih i v (by simpa using h)
   rw[show (i+1)*2+1=(i*2+1)+2 by omega]
   show (aR q++l.flatMap aR).set _ _=aR q++((l.set i ⟨(l.getD i ⟨.empty,0⟩).key,v⟩).flatMap aR)
   rw[<- h2];rfl
theorem SU{l:List Ct.bN}{key:ByteArray}{v:Nat}(hv:Ct.aQ l=true)(h:Ct.iZ l key=true):l.set (Ct.aZ l key) ⟨(l.getD (Ct.aZ l key) ⟨.empty,0⟩).key,v⟩=Ct.mC l key v:=by
 unfold Ct.mC;rw[if_neg (by simp[hv]),if_pos h,List.set_eq_take_append_cons_drop,if_pos (Gc h)];rfl
theorem whole{α:Type}{l:List α}{d:α}:(List.replicate l.length d).take 0++l++(List.replicate l.length d).drop (0+l.length)=l:=by simp
theorem i2{α:Type}(A D:List α)(d z:α):(((List.replicate (A.length+D.length+1) d).take 0++A++(List.replicate (A.length+D.length+1) d).drop (0+A.length)).set A.length z).take (A.length+1)++D++(((List.replicate (A.length+D.length+1) d).take 0++A++(List.replicate (A.length+D.length+1) d).drop (0+A.length)).set A.length z).drop (A.length+1+D.length)=A++z::D:=by
 have e:(((List.replicate (A.length+D.length+1) d).take 0++A++(List.replicate (A.length+D.length+1) d).drop (0+A.length)).set A.length z)=A++z::List.replicate D.length d:=by
  rw[List.take_zero,cO,Xb,List.drop_replicate,show A.length+D.length+1-A.length=D.length+1 by omega,List.replicate_succ,List.set_append_right _ _ (JV _),Nat.sub_self,List.set_cons_zero]
 rw[e,List.drop_eq_nil_of_le (by rw[tW,QR,List.length_replicate];omega),List.take_append,RF (Nat.le_succ _),Nat.add_sub_cancel_left,List.take_succ_cons,List.take_zero]
 simp
theorem d6{α:Type}{l:List α}{d z:α}{k n:Nat}(hk:k<=l.length)(hn:l.length+1=n):(((List.replicate n d).take 0++l.take k++(List.replicate n d).drop (0+(l.take k).length)).set k z).take (k+1)++l.drop k++(((List.replicate n d).take 0++l.take k++(List.replicate n d).drop (0+(l.take k).length)).set k z).drop (k+1+(l.drop k).length)=l.take k++z::l.drop k:=by
 have h1:(l.take k).length=k:=by rw[dF,Hg hk]
 have h2:=i2 (l.take k) (l.drop k) d z
 rw[h1,uZ,show k+(l.length-k)+1=n by omega]at h2
 rw[h1,uZ];exact h2
theorem S9{α:Type}{l:List α}{d:α}{k n:Nat}(hk:k<l.length)(hn:n=l.length-1):((List.replicate n d).take 0++l.take k++(List.replicate n d).drop (0+(l.take k).length)).take k++l.drop (k+1)++((List.replicate n d).take 0++l.take k++(List.replicate n d).drop (0+(l.take k).length)).drop (k+(l.drop (k+1)).length)=l.take k++l.drop (k+1):=by
 have h1:(l.take k).length=k:=by rw[dF,Hg (by omega)]
 subst hn
 rw[h1,List.take_zero,cO,Xb]
 rw[show (l.take k++(List.replicate (l.length-1) d).drop k).take k=l.take k from by rw[List.take_append,h1,Nat.sub_self,List.take_zero,List.append_nil,RF (by omega)]]
 rw[show (l.take k++(List.replicate (l.length-1) d).drop k).drop (k+(l.drop (k+1)).length)=[]from List.drop_eq_nil_of_le (by simp;omega),List.append_nil]
theorem OG{α:Type}{l:List α}{d:α}{k n:Nat}(hk:k<=l.length)(hn:k<=n):((List.replicate n d).take 0++l.take k++(List.replicate n d).drop (0+(l.take k).length)).length=n:=by simp;omega
theorem WJ{l:List Ct.bN}{key:ByteArray}{v:Nat}(hv:Ct.aQ l=true)(h:Ct.iZ l key=false):l.take (Ct.aZ l key)++⟨key,v⟩::l.drop (Ct.aZ l key)=Ct.mC l key v:=by
 unfold Ct.mC;rw[if_neg (by simp[hv]),if_neg (by simp[h])]
theorem LI{l:List Ct.bN}{key:ByteArray}(hv:Ct.aQ l=true)(h:Ct.iZ l key=true):l.take (Ct.aZ l key)++l.drop (Ct.aZ l key+1)=Ct.gX l key:=by
 unfold Ct.gX;rw[if_neg (by simp[hv]),if_pos h]
theorem PK{l:List Ct.bN}{key:ByteArray}(hv:Ct.aQ l=true)(h:Ct.iZ l key=false):l=Ct.gX l key:=by
 unfold Ct.gX;rw[if_neg (by simp[hv]),if_neg (by simp[h])]
theorem Td(l:List Ct.bN)(key:ByteArray)(v:Nat)(hv:Ct.aQ l=true):(Ct.mC l key v).length=l.length+(if Ct.iZ l key=true then 0 else 1):=by
 have hle:=Ct.sE l key
 unfold Ct.mC
 rw[if_neg (by simp[hv])]
 by_cases h:Ct.iZ l key=true
 ·have:=Gc h
  rw[if_pos h,if_pos h];simp;omega
 ·rw[if_neg h,if_neg h];simp;omega
theorem LG{l:List Ct.bN}{p:Option Addr}{m c:Nat}(hz:m=l.length)(h:SH B w (bV 2 (.slice p m c) m (l.flatMap aR)::L)):∃p' c',Ending.returned (.slice p m c)=.returned (.slice p' l.length c')/\SH B w (bV 2 (.slice p' l.length c') l.length (l.flatMap aR)::L):=by
 subst hz;exact⟨p,c,rfl,h⟩
section
attribute [local semireducible] gB wpS Go.E.X XS C jU kP fin Y U F Ca jT bl rb aU bV ex ce pu sK gK bK zK gM fO dH gP nE
attribute [local irreducible] gB wpS
variable{B w:World}{L:List As}
theorem YF(l:List Ct.bN)(p:Option Addr)(c:Nat)(key:ByteArray)(v:Nat)(h:SH B w (bV 2 (.slice p l.length c) l.length (l.flatMap aR)::L))(hv:Ct.aQ l=true)(hl:l.length<=150000000000):
  Calls prog 277 #[.slice p l.length c,↑key,.int .u64 (v:Int)] w λe w'=>∃p' c',e=.returned (.slice p' (Ct.mC l key v).length c')/\SH B w' (bV 2 (.slice p' (Ct.mC l key v).length c') (Ct.mC l key v).length ((Ct.mC l key v).flatMap aR)::bV 2 (.slice p l.length c) l.length (l.flatMap aR)::L):=by
 have hle:=Ct.sE l key
 refine Ea (args:=[_,_,_]) func277 rfl ntmps277 rfl ?_
 refine sq<|rg<|st (sg rfl)<|xe<|nx<|sq<|sq<|rg<|st (mv rfl)<|cl (ca eF rfl) ((oF l _ _ (h.fr (.c r0 .n)) hv (by omega)).mono ?_)
 rintro _ w ⟨rfl,h⟩
 refine⟨_,rfl,?_⟩
 refine st (nt rfl)<|xe<|nx<|cF rfl<|sk<|nx<|sq<|rg<|st (mv rfl)<|st (mv rfl)<|cl (ca eF rfl) ((xI l _ _ key (h.fr (.c r0 .n)) hv (by omega)).mono ?_)
 rintro _ w ⟨rfl,h⟩
 refine⟨_,rfl,?_⟩
 refine st (mv rfl)<|st (xr rfl rfl)<|st (xr rfl rfl)<|st (sg rfl)<|st (sg rfl)<|xe<|nx<|sq<|sq<|rg<|st (mv rfl)<|xe<|nx<|?_
 rcases CG (Ct.iZ l key)with hd1|hd1
 ·refine ct rfl hd1<|sq<|?_
  have hlt:=Gc hd1
  refine rg<|st (mv rfl)<|st (ln eX rfl rfl)<|sf (mk h eX Pw rfl rfl (by omega) (by unfold maxLen;omega))<|?_
  rintro _ w ⟨b2,rfl,h⟩
  rw[rV bH (by decide) (d:=⟨.empty,0⟩) rfl]at h
  refine st (sg rfl)<|xe<|nx<|sq<|?_
  refine rg<|st (mv rfl)<|st (mv rfl)<|sf (ZW (k:=0) h a1 eX oB rfl rfl u0 (λ_=>by rw[Nat.zero_mul]) (by omega) (by omega) (lU eU _))<|?_
  rintro _ w ⟨rfl,h⟩
  rw[Fy bH]at h
  rw[whole]at h
  refine xe<|nx<|sq<|rg<|st (mv rfl)<|st (mv rfl)<|st (mv rfl)<|st (ix (j:=Ct.aZ l key) eX oB rfl rfl (by omega))<|st (fa Uh rfl)<|sf (N4 (i:=(Ct.aZ l key)) (o:=1) h Vu rfl rfl (by omega) u0)<|?_
  rintro _ w h
  rw[YR l (Ct.aZ l key) v (by first|omega|(simp;omega))]at h
  refine xe<|nx<|sq<|rg<|st (mv rfl)<|st (sg rfl)<|xe<|nx<|rt<|tr<|?_
  refine rr (jP results277 rfl)<|?_
  have h:=(h).fz
  rw[SU hv hd1]at h
  have hz:l.length=(Ct.mC l key v).length:=by rw[Td l key v hv,if_pos hd1];rfl
  exact LG hz h
 ·refine cf rfl hd1<|sk<|nx<|sq<|rg<|st (mv rfl)<|st (ln eX rfl rfl)<|st (bw rfl rfl (gN (c:=((l.length+1:Nat):Int)) (by omega) (by omega) (by omega)))<|sf (mk h eX Pw rfl rfl (by omega) (by unfold maxLen;omega))<|?_
  rintro _ w ⟨b3,rfl,h⟩
  rw[rV bH (by decide) (d:=⟨.empty,0⟩) rfl]at h
  refine st (sg rfl)<|xe<|nx<|sq<|?_
  have hcap:l.length<=c:=h.MS a1
  have h:=h.cut (k:=Ct.aZ l key) a1 (by omega)
  rw[Kk bH]at h
  have h:=h.tl (k:=Ct.aZ l key) a2 (by omega)
  rw[rZ bH]at h
  refine rg<|st (mv rfl)<|st (mv rfl)<|st (mv rfl)<|st (B4 (k:=(Ct.aZ l key)) eX oB rfl rfl (by(try dsimp only);omega))<|sf (ZW (k:=0) h a1 eX oB rfl rfl u2 (λ_=>by rw[Nat.zero_mul]) (by omega) (by omega) (lU eU _))<|?_
  rintro _ w ⟨rfl,h⟩
  rw[Fy bH]at h
  refine xe<|nx<|sq<|rg<|st (mv rfl)<|st (mv rfl)<|st (mv rfl)<|st (mv rfl)<|st (bd [↑key,.int .u64 (v:Int)] pK rfl (by kernel_rfl))<|st (ix (j:=Ct.aZ l key) eX oB rfl rfl (by omega))<|sf (ZB (enc:=aR) (a:=(⟨key,v⟩:Ct.bN)) h oB bH eU rfl rfl rfl (by omega) (OG (by omega) (by omega)) u2)<|?_
  rintro _ w h
  refine xe<|nx<|sq<|dZ [1,3,5,7,9,11,13,14] (by kernel_rfl) h .n λw h=>tk (λW H=>mv rfl)<|tk (λW H=>mv rfl)<|tk (λW H=>bw rfl rfl (gN (c:=((Ct.aZ l key+1:Nat):Int)) (by omega) (by omega) (by omega)))<|tk (λW H=>YD (k:=(Ct.aZ l key+1)) eX oB rfl rfl (by(try dsimp only);omega) (JV _))<|tk (λW H=>mv rfl)<|tk (λW H=>mv rfl)<|tk (λW H=>YD (k:=(Ct.aZ l key)) eX oB rfl rfl (by(try dsimp only);omega) (by(try dsimp only);omega))<|ff (ZW (k:=(Ct.aZ l key+1)) h a0 eX oB rfl rfl u2 (λq=>i7 (by omega)) (by omega) (by omega) (lU eU _))<|?_
  rintro _ w ⟨rfl,h⟩
  rw[Fy bH]at h
  refine⟨h.hs .n,?_⟩
  refine xz<|nx<|sq<|rg<|st (mv rfl)<|st (sg rfl)<|xe<|nx<|rt<|?_
  refine rr (jP results277 rfl)<|?_
  have h:=(h.drop.drop).fz
  rw[d6 (by omega) rfl,WJ hv hd1]at h
  have hz:l.length+1=(Ct.mC l key v).length:=by rw[Td l key v hv,if_neg (by simp[hd1])]
  exact LG hz h
end
section
attribute [local semireducible] gB wpS Go.E.X XS C jU kP fin Y U F Ca jT bl rb aU bV ex ce pu sK gK bK zK gM fO dH gP nE
attribute [local irreducible] gB wpS
variable{B w:World}{L:List As}
theorem O9(l:List Ct.bN)(p:Option Addr)(c:Nat)(key:ByteArray)(h:SH B w (bV 2 (.slice p l.length c) l.length (l.flatMap aR)::L))(hv:Ct.aQ l=true)(hl:l.length<=150000000000):
  Calls prog 302 #[.slice p l.length c,↑key] w λe w'=>∃p' c',e=.returned (.slice p' (Ct.gX l key).length c')/\SH B w' (bV 2 (.slice p' (Ct.gX l key).length c') (Ct.gX l key).length ((Ct.gX l key).flatMap aR)::bV 2 (.slice p l.length c) l.length (l.flatMap aR)::L):=by
 have hle:=Ct.sE l key
 refine Ea (args:=[_,_]) func302 rfl ntmps302 rfl ?_
 refine sq<|rg<|st (sg rfl)<|xe<|nx<|sq<|sq<|rg<|st (mv rfl)<|cl (ca eF rfl) ((oF l _ _ (h.fr (.c r0 .n)) hv (by omega)).mono ?_)
 rintro _ w ⟨rfl,h⟩
 refine⟨_,rfl,?_⟩
 refine st (nt rfl)<|xe<|nx<|cF rfl<|sk<|nx<|sq<|rg<|st (mv rfl)<|st (mv rfl)<|cl (ca eF rfl) ((xI l _ _ key (h.fr (.c r0 .n)) hv (by omega)).mono ?_)
 rintro _ w ⟨rfl,h⟩
 refine⟨_,rfl,?_⟩
 refine st (mv rfl)<|st (xr rfl rfl)<|st (xr rfl rfl)<|st (sg rfl)<|st (sg rfl)<|xe<|nx<|sq<|sq<|rg<|st (mv rfl)<|st (nt rfl)<|xe<|nx<|?_
 rcases CG (!(Ct.iZ l key))with hd1|hd1
 ·have hd2:(Ct.iZ l key)=false:=(xE _).mp hd1
  refine ct rfl hd1<|sq<|rg<|st (mv rfl)<|st (ln eX rfl rfl)<|sf (mk h eX Pw rfl rfl (by omega) (by unfold maxLen;omega))<|?_
  rintro _ w ⟨b3,rfl,h⟩
  rw[rV bH (by decide) (d:=⟨.empty,0⟩) rfl]at h
  refine st (sg rfl)<|xe<|nx<|sq<|?_
  refine rg<|st (mv rfl)<|st (mv rfl)<|sf (ZW (k:=0) h a1 eX oB rfl rfl u0 (λ_=>by rw[Nat.zero_mul]) (by omega) (by omega) (lU eU _))<|?_
  rintro _ w ⟨rfl,h⟩
  rw[Fy bH]at h
  rw[whole]at h
  refine xe<|nx<|sq<|rg<|st (mv rfl)<|st (sg rfl)<|xe<|nx<|rt<|tr<|?_
  refine rr (jP results302 rfl)<|?_
  have h:=(h).fz
  have hz:l.length=(Ct.gX l key).length:=by rw[<- PK hv hd2]
  have e:=PK hv hd2
  exact LG hz (by rw[<- e];exact h)
 ·have hd4:(Ct.iZ l key)=true:=(cW _).mp hd1
  refine cf rfl hd1<|sk<|nx<|sq<|?_
  have hlt:=Gc hd4
  refine rg<|st (mv rfl)<|st (ln eX rfl rfl)<|st (bw rfl rfl (zW (c:=((l.length-1:Nat):Int)) (by omega) (by omega) (by omega)))<|sf (mk h eX Pw rfl rfl (by omega) (by unfold maxLen;omega))<|?_
  rintro _ w ⟨b5,rfl,h⟩
  rw[rV bH (by decide) (d:=⟨.empty,0⟩) rfl]at h
  refine st (sg rfl)<|xe<|nx<|sq<|?_
  have hlt:=Gc hd4
  have hcap:l.length<=c:=h.MS a1
  have h:=h.cut (k:=Ct.aZ l key) a1 (by omega)
  rw[Kk bH]at h
  have h:=h.tl (k:=Ct.aZ l key+1) a2 (by omega)
  rw[rZ bH]at h
  refine rg<|st (mv rfl)<|st (mv rfl)<|st (mv rfl)<|st (B4 (k:=(Ct.aZ l key)) eX oB rfl rfl (by(try dsimp only);omega))<|sf (ZW (k:=0) h a1 eX oB rfl rfl u2 (λ_=>by rw[Nat.zero_mul]) (by omega) (by omega) (lU eU _))<|?_
  rintro _ w ⟨rfl,h⟩
  rw[Fy bH]at h
  refine xe<|nx<|sq<|dZ [1,3,5,7,9,11,13,14] (by kernel_rfl) h .n λw h=>tk (λW H=>mv rfl)<|tk (λW H=>mv rfl)<|tk (λW H=>YD (k:=(Ct.aZ l key)) eX oB rfl rfl (by(try dsimp only);omega) (JV _))<|tk (λW H=>mv rfl)<|tk (λW H=>mv rfl)<|tk (λW H=>bw rfl rfl (gN (c:=((Ct.aZ l key+1:Nat):Int)) (by omega) (by omega) (by omega)))<|tk (λW H=>YD (k:=(Ct.aZ l key+1)) eX oB rfl rfl (by(try dsimp only);omega) (by(try dsimp only);omega))<|ff (ZW (k:=(Ct.aZ l key)) h a0 eX oB rfl rfl u2 (λq=>i7 (by omega)) (by omega) (by omega) (lU eU _))<|?_
  rintro _ w ⟨rfl,h⟩
  rw[Fy bH]at h
  refine⟨h.hs .n,?_⟩
  refine xz<|nx<|sq<|rg<|st (mv rfl)<|st (sg rfl)<|xe<|nx<|rt<|?_
  refine rr (jP results302 rfl)<|?_
  have h:=(h.drop.drop).fz
  rw[S9 hlt rfl,LI hv hd4]at h
  have hz:l.length-1=(Ct.gX l key).length:=by rw[<- LI hv hd4];simp;omega
  exact LG hz h
end
variable{B w:World}{L:List As}
theorem Mu(x:Nat)(l:List Ct.bN)(p:Option Addr)(c:Nat)(h:SH B w (bV 2 (.slice p l.length c) l.length (l.flatMap aR)::L))(hl:l.length<=200000000000):
  Calls prog 276 #[.int .u64 (x:Int),.slice p l.length c] w λe w'=>∃q',e=.returned (.agg (aL {kind:=6,hash:=x,aF:=l} q').toArray)/\SH B w' (aM {kind:=6,hash:=x,aF:=l} q'::L):=by
 refine bZ func276 ntmps276 h λw h=>?_
 refine jA h λb1 w h=>?_
 refine Sd (Fa _ _ _ h.to (by omega)) λq2 c3 w h=>?_
 exact rr (bP rfl rfl (h.b a1) Row.h)<|⟨⟨none,0,q2,c3⟩,rfl,SH.t1 (m:={kind:=6,hash:=x,aF:=l}) h.to rfl⟩
section
attribute [local semireducible] gB wpS Go.E.X XS C jU kP fin Y U F Ca jT bl rb aU bV ex ce pu sK gK bK zK gM fO dH gP nE
attribute [local irreducible] gB wpS
variable{B w:World}{L:List As}
theorem Ic(n:Ct.Node)(q:Lq)(key:ByteArray)(v:Nat)(h:SH B w (aM n q::L))(nf:NF n)(hpl:n.aF.length<=150000000000):
  Calls prog 246 #[.agg (aL n q).toArray,↑key,.int .u64 (v:Int)] w λe w'=>∃q',e=.returned (.tuple #[.agg (aL (Ct.grown n key v).1 q').toArray,.bool (Ct.grown n key v).2])/\SH B w' (aM (Ct.grown n key v).1 q'::aM n q::L):=by
 have nf_br:=nf.br
 have nf_pr:=nf.pr
 have nf_bm:=nf.bm
 have nf_hs:=nf.hs
 have nf_ks:=nf.ks
 refine Ea (args:=[_,_,_]) func246 rfl ntmps246 rfl ?_
 refine sq<|rg<|sf (bx h rfl rfl)<|?_
 rintro _ w ⟨b1,rfl,h⟩
 refine sf (al h Ur)<|?_
 rintro _ w ⟨b2,rfl,h⟩
 refine st (sg rfl)<|xe<|nx<|sq<|sq<|rg<|st (gJ rfl (dK (h.b a1)) fK)<|cl (ca eF rfl) ((GY n q (h.fr (.c r2 .n)) nf).mono ?_)
 rintro _ w ⟨rfl,h⟩
 refine⟨_,rfl,?_⟩
 refine st (nt rfl)<|st (mv rfl)<|?_
 rcases CG (!n.Kx)with hd3|hd3
 ·have hd4:n.Kx=false:=(xE _).mp hd3
  refine gF rfl rfl hd3<|gF rfl rfl hd3<|gF rfl rfl hd3<|st (pT rfl hd3 rfl)<|xe<|nx<|cT rfl<|sq<|rg<|st (bd [.int .i64 0,.int .i64 0,.int .i64 0,.int .u64 0,.slice none 0 0,.int .u64 0,.string .empty,.int .u64 0,.slice none 0 0,.int .i64 0,.int .i64 0,.int .i64 0,.int .i64 0,.int .i64 0] wS rfl (by kernel_rfl))<|sf (so h rfl rfl rfl vA rfl (.r (.r (.r (.r (.r (.r (.r (.r (.r (.r (.r (.r (.r (.r .d)))))))))))))) u1)<|?_
  rintro _ w h
  refine st (sg rfl)<|xe<|nx<|rt<|tr<|?_
  refine rr (cL results246 rfl (h.b a1) fK rfl)<|?_
  rw[GD (.inl hd4)];exact⟨{},rfl,SH.eE _ rfl rfl (h.fr (.c r1 (.c r1 .n))).drop.drop⟩
 ·have hd5:n.Kx=true:=(cW _).mp hd3
  refine gT rfl rfl hd3<|st (mv rfl)<|gT rfl rfl hd3<|st (PA Qw rfl rfl)<|gT rfl rfl hd3<|st (bi rfl rfl rfl)<|st (pF rfl hd3 rfl)<|xe<|nx<|?_
  rcases CG (decide (((key.size:Int):Int)>64))with hd6|hd6
  ·have hg7:=Qa hd6
   refine ct rfl hd6<|sq<|rg<|st (bd [.int .i64 0,.int .i64 0,.int .i64 0,.int .u64 0,.slice none 0 0,.int .u64 0,.string .empty,.int .u64 0,.slice none 0 0,.int .i64 0,.int .i64 0,.int .i64 0,.int .i64 0,.int .i64 0] wS rfl (by kernel_rfl))<|sf (so h rfl rfl rfl vA rfl (.r (.r (.r (.r (.r (.r (.r (.r (.r (.r (.r (.r (.r (.r .d)))))))))))))) u1)<|?_
   rintro _ w h
   refine st (sg rfl)<|xe<|nx<|rt<|tr<|?_
   refine rr (cL results246 rfl (h.b a1) fK rfl)<|?_
   rw[GD (.inr (by omega))];exact⟨{},rfl,SH.eE _ rfl rfl (h.fr (.c r1 (.c r1 .n))).drop.drop⟩
  ·have hg8:=zG hd6
   refine cf rfl hd6<|sk<|nx<|sq<|?_
   have h:SH B w (bV 1 (.slice q.pb n.aA.length q.cb) n.aA.length (n.aA.map (Value.int .i64))::bV 2 (.slice q.pp n.aF.length q.cp) n.aF.length (n.aF.flatMap aR)::bl b2 ([.int .i64 0,.int .i64 0,.int .i64 0,.int .u64 0,.slice none 0 0,.int .u64 0,.string .empty,.int .u64 0,.slice none 0 0,.int .i64 0,.int .i64 0,.int .i64 0,.int .i64 0,.int .i64 0]) 90::bl b1 (aL n q) 90::L):=SH.se (l:=[aY n q,cH n q]) h
   have hpv:=(fJ (vF hd5).2).kG (vF hd5).1
   have hpn:=Td n.aF key v hpv
   have hpm:(Ct.mC n.aF key v).length<=n.aF.length+1:=by rw[hpn];split<;>omega
   refine dZ [1,3,5,7,9,11,12,14,16,18] (by kernel_rfl) h (.c r3 .n) λw h=>tk (λW H=>fa DO rfl)<|tk (λW H=>ld nC rfl (H.c a0 rfl))<|tk (λW H=>fa oO rfl)<|tk (λW H=>ld tC rfl (H.c a0 rfl))<|tk (λW H=>mv rfl)<|tk (λW H=>mv rfl)<|cs (ca eF rfl) ((YF n.aF _ _ key v (h.fr (.c r1 .n)) hpv (by omega)).mono ?_)
   rintro _ w ⟨q9,c10,rfl,h⟩
   refine⟨_,rfl,h.hs (.c r4 .n),?_⟩
   refine cs (ca eF rfl) ((Mu n.hash (Ct.mC n.aF key v) _ _ (h.fr (.c r0 .n)) (by omega)).mono ?_)
   rintro _ w ⟨q11,rfl,h⟩
   refine⟨_,rfl,h.hs (.c r4 .n),?_⟩
   refine ff (so h rfl rfl rfl vA rfl (.r (.r (.r (.r (.r (.r (.r (.r (.r (.r (.r (.r (.r (.r .d)))))))))))))) u3)<|?_
   rintro _ w h
   refine⟨h.hs (.c r4 .n),?_⟩
   refine ef (sg rfl) (h.hs (.c r4 .n))<|xz<|nx<|rt<|?_
   refine rr (cL results246 rfl (h.b a3) fK rfl)<|?_
   rw[AO hd5 (by omega)]
   have h:=((h.fr (.c r3 (.c r3 .n))).drop.drop.fr (.c r0 (.c r1 (.c r0 .n))))
   have h:=h.fr (.c r1 (.c r1 .n))
   exact⟨q11,rfl,(SH.is (l:=[aY n q,cH n q]) h).fr (.c r1 .n)⟩
end
variable{B w:World}{L:List As}
theorem Kr(n:Ct.Node)(pb:Option Addr)(cb:Nat)(pp:Option Addr)(cp:Nat)(key:ByteArray)(h:SH B w (aM n (⟨pb,cb,pp,cp⟩)::L))(nf:NF n)(hpl:n.aF.length<=150000000000)(hi:n.Kx=true):
  Calls prog 288 #[.agg (aL n (⟨pb,cb,pp,cp⟩)).toArray,↑key] w λe w'=>∃q',e=.returned (.tuple #[.agg (aL (Ct.gC n key).1 q').toArray,.bool (Ct.gC n key).2])/\SH B w' (aM (Ct.gC n key).1 q'::aM n ⟨pb,cb,pp,cp⟩::L):=by
 have nf_br:=nf.br
 have nf_pr:=nf.pr
 have nf_bm:=nf.bm
 have nf_hs:=nf.hs
 have nf_ks:=nf.ks
 have hv:=(fJ (vF hi).2).kG (vF hi).1
 have hdl:=(Dp n.aF key hv).1
 refine bZ func288 ntmps288 h λw h=>?_
 refine jX h λb1 w h=>?_
 refine jA h λb2 w h=>?_
 refine bA (GY _ (⟨pb,cb,pp,cp⟩) h.to nf) λw h=>?_
 have h:=SH.se (l:=[aY n (⟨pb,cb,pp,cp⟩),cH n (⟨pb,cb,pp,cp⟩)]) h
 refine go h λw h=>?_
 refine bA (Hp _ _ _ _ h.to hv (by omega)) λw h=>?_
 refine qc h (λhd3 w h=>?_) λhd3 w h=>?_
 have hd4:(Ct.bB n.aF key).2=false:=(xE _).mp hd3
 refine go h λw h=>?_
 have h:=SH.is (l:=[aY n ⟨pb,cb,pp,cp⟩,cH n ⟨pb,cb,pp,cp⟩]) (h.fr (.c r1 (.c r0 .n)))
 refine go h λw h=>?_
 refine rr (cL rfl rfl (h.b a1) Row.h rfl) ?_
 rw[j9 hd4]
 have h:=(h.fr (.c r1 (.c r1 .n))).drop.drop
 exact⟨{},rfl,SH.eE _ rfl rfl h⟩
 have hd5:(Ct.bB n.aF key).2=true:=(cW _).mp hd3
 refine go h λw h=>?_
 refine Sd (O9 _ _ _ _ h.to hv (by omega)) λq6 c7 w h=>?_
 refine qc h (λhd8 w h=>?_) λhd8 w h=>?_
 have hg9:=eq_of_beq hd8
 refine go h λw h=>?_
 obtain⟨b10,o11,rfl⟩:=h.fq a0 (by omega)
 refine dZ [1,3,5,7,9,11,13,15,17,19,20,22,24] (by kernel_rfl) h (.c r4 (.c r0 .n)) λw h=>go h λw h=>?_
 refine tk (λW H=>ld One.h rfl ((H.rr a1).x bH (by decide) (j:=0) (by omega) ⟨.empty,0⟩ 0 _ rfl))<|go h λw h=>?_
 refine tk (λW H=>ld One.h rfl ((H.rr a1).x bH (by decide) (j:=0) (by omega) ⟨.empty,0⟩ 1 _ rfl))<|go h λw h=>?_
 refine gO (HM _ _ _ h.to) λw h=>?_
 refine rr (cL rfl rfl (h.b a3) Row.h rfl) ?_
 rw[NK hi hd5 (by omega)]
 have h:=SH.is (l:=[aY n ⟨pb,cb,pp,cp⟩,cH n ⟨pb,cb,pp,cp⟩]) ((h.fr (.c r0 (.c r2 (.c r2 .n)))).drop.drop.drop.fr (.c r1 (.c r0 .n)))
 exact⟨{},rfl,SH.eE _ rfl rfl h⟩
 have hg12:=eC hd8
 refine go h λw h=>?_
 refine cG (Mu _ _ _ _ h.to (by omega)) λq13 w h=>?_
 refine rr (cL rfl rfl (h.b a3) Row.h rfl) ?_
 rw[EE hi hd5 (by omega)]
 have h:=((h.fr (.c r3 (.c r3 .n))).drop.drop.fr (.c r0 (.c r1 (.c r0 .n))))
 have h:=h.fr (.c r1 (.c r1 .n))
 exact⟨q13,rfl,(SH.is (l:=[aY n ⟨pb,cb,pp,cp⟩,cH n ⟨pb,cb,pp,cp⟩]) h).fr (.c r1 .n)⟩
end Go.Q9
end
section
namespace Go.Q9
open Go.Proofs.Tryz
open Go.E
end Go.Q9
end
