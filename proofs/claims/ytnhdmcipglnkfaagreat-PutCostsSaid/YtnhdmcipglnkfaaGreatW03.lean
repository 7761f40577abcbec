/- Parts of a proof: E5, E6, E7, E8. -/
import Derived.Test.YtnhdmcipglnkfaaGreatW02
import Derived.Laws.Cover3
import Derived.Laws.Slices
import Derived.Laws.StructEq
import Derived.Laws.Small
import Derived.Laws.Pointers
set_option linter.unusedVariables false
set_option linter.unusedSimpArgs false
set_option maxRecDepth 100000
set_option maxHeartbeats 4000000
section
namespace Go.E
variable{P:Program}{n:Nat}{K:kG}{e:Tm}{w:World}{ops:Array Oper}{l:List Oper}{S:World->Prop}{ls:List (Oper×Bool)}{B:World}{L L':List As}
variable{d:Option Tmp}{ty:TypeId}{ps:String}{af:Array Edge}{g:Option (Nat×Bool)}
theorem bnl{xt yt el:TypeId}{x y:Operand}{p:Option Addr}{m c:Nat}(ht:P.underlying xt=some (.slice el))(hx:ev n e x=some (.slice p m c))(hy:ev n e y=some (.slice none 0 0)):Y P n e ⟨d,.binOp .eql xt x y yt,ty,ps,af,g⟩ w (.bool p.isNone) w:=
 bc hx hy (by
  have h:=run_equal_slice_nil (P:=P) (w:=w) xt el p m c ht
  simp[eqGuard,binOp,h])
theorem SH.fz{el:TypeId}{sz m:Nat}{v:Value}{xs:List Value}(h:SH B w (aV el sz v m xs::L)):SH B w (bS sz v m xs::L):=h.wk λO R hA=>by
 refine⟨λ_=>False,O,⟨⟨hA.1.1,?_⟩,λ_ h=>h,hA.2.1⟩,λ_ h=>h.elim,λk hk=>.inl hk⟩
 rcases hA.1.2 with hn|⟨g,cap,cur,rfl,hb,hg,h1,h2,h3⟩
 ·exact .inl hn
 ·refine .inr ⟨g,0,cap,rfl,(Array.getElem?_eq_some_iff.1 hg).1,h1,h2,λj u hu=>?_⟩
  have:=hA.1.cells (g:=g) rfl j u hu
  rw[pI]at this;exact this
theorem SH.rz{sz m c:Nat}{p:Option Addr}{xs:List Value}(h:SH B w L)(m':At L (bS sz (.slice p m c) m xs))(hp:p.isNone=true):m=0:=by
 obtain⟨_,_,h1⟩:=h.at_ m'
 rcases h1.1.2 with⟨_,h3⟩|⟨b,o,cap,h2,_⟩
 ·exact h3
 ·injection h2 with h2;rw[h2]at hp;cases hp
theorem SH.rp{sz m c:Nat}{p:Option Addr}{xs:List Value}(h:SH B w L)(m':At L (bS sz (.slice p m c) m xs))(hp:p.isNone=false):∃b o,p=some ⟨b,o,none⟩:=by
 obtain⟨_,_,h1⟩:=h.at_ m'
 rcases h1.1.2 with⟨h2,_⟩|⟨b,o,cap,h2,_⟩
 ·injection h2 with h2;rw[h2]at hp;cases hp
 ·injection h2 with h2;exact⟨b,o,h2⟩
theorem slh{t el:TypeId}{x i:Operand}{p:Option Addr}{m c k sz:Nat}{q:IntKind}(ht:P.underlying t=some (.slice el))(hs:(P.info? el).map (·.size)=some sz)(hx:ev n e x=some (.slice p m c))(hi:ev n e i=some (.int q (k:Nat)))(hk:k<=c):Y P n e ⟨d,.slice t x none (some i) none,ty,ps,af,g⟩ w (.slice p k c) w:=λa ha=>by
 have h1:=run_sliceBound (P:=P) w q (k:Int) c .sliceAcap (by omega) (by omega)
 cases hq:P.info? el with
 |none=>rw[hq]at hs;cases hs
 |some inf=>
  cases p with
  |none=>simp[execOp,ha.eval hx,ha.eval hi,Instr.sliceAt,run_underlying ht,Instr.slice,Instr.sliceBounds,h1,sizeOf,typeInfo,hq]
  |some ad=>
   have h2:ad.add 0=ad:=rfl
   simp[execOp,ha.eval hx,ha.eval hi,Instr.sliceAt,run_underlying ht,Instr.slice,Instr.sliceBounds,h1,sizeOf,typeInfo,hq,h2]
theorem SH.cut{sz m c k:Nat}{p:Option Addr}{xs:List Value}(h:SH B w L)(m':At L (bS sz (.slice p m c) m xs))(hk:k<=m):SH B w (bS sz (.slice p k c) k (xs.take (k*sz))::L):=h.dup m' λO R hA=>by
 refine⟨λj=>Value.ownBlock (.slice p k c)=some j,⟨⟨?_,?_⟩,λ_ h=>h,λ_=>Iff.rfl⟩,λj hj=>(hA.2.2 j).2 ?_⟩
 ·rw[lI,hA.1.1];exact Hc (NI _ hk)
 ·rcases hA.1.2 with⟨h1,h2⟩|⟨b,o,cap,h1,hb,h2,h3,h4⟩
  ·injection h1 with h1 h5 h6;subst h1 h6;exact .inl ⟨by rw[show k=0 by omega],by omega⟩
  ·injection h1 with h1 h5 h6;subst h1 h6
   refine .inr ⟨b,o,c,rfl,hb,by omega,h3,λj u hu=>h4 j u ?_⟩
   rw[DN]at hu
   split at hu
   ·exact hu
   ·cases hu
 ·cases p with
  |none=>cases hj
  |some a=>exact hj
inductive EK where
 |b
 |i (k:IntKind)
 |s
 deriving DecidableEq
def ekF(f:TypeId->Option (List EK))(P:Program):List Field->Nat->Option (List EK)
 |[],_=>some []
 |x::r,o=>match f x.type,P.underlying x.type,(P.info? x.type).map (·.size),ekF f P r (o+((f x.type).getD []).length)with
  |some a,some d,some z,some c=>bif (x.name != "_")&&Nat.beq x.offset o&&Nat.beq z a.length&&(isRow d||Nat.beq a.length 1)then some (a++c)else none
  |_,_,_,_=>none
def ek(P:Program):Nat->TypeId->Option (List EK)
 |0,_=>none
 |d+1,t=>match P.underlying t with
  |some .bool=>some [.b]
  |some (.int k)=>some [.i k]
  |some .string=>some [.s]
  |some (.struct fs)=>bif P.stoodInHeld t then none else ekF (ek P d) P fs.toList 0
  |_=>none
def J9:EK->Value->Bool
 |.b,.bool _=>true
 |.i k,.int k' _=>k==k'
 |.s,.string _=>true
 |_,_=>false
def pU:List EK->List Value->Bool
 |[],[]=>true
 |k::ks,v::vs=>J9 k v&&pU ks vs
 |_,_=>false
def veq:Value->Value->Bool
 |.bool a,.bool b=>a==b
 |.int _ a,.int _ b=>a==b
 |.string a,.string b=>a.toList==b.toList
 |_,_=>false
def Ub:List Value->List Value->Bool
 |[],[]=>true
 |a::l,b::m=>veq a b&&Ub l m
 |_,_=>false
theorem pZ:∀{ks:List EK} {xs:List Value},pU ks xs=true->xs.length=ks.length
 |[],[],_=>rfl
 |k::ks,v::vs,h=>by
  simp only[pU,pM]at h
  simp[pZ h.2]
 |[],v::vs,h=>by cases h
 |k::ks,[],h=>by cases h
theorem F0{k:EK}{xs:List Value}(h:pU [k] xs=true):∃v,xs=[v]/\J9 k v=true:=by
 cases xs with
 |nil=>cases h
 |cons v r=>cases r with
  |nil=>exact⟨v,rfl,by simpa[pU]using h⟩
  |cons _ _=>simp[pU]at h
theorem Il:∀{a c:List EK} {xs:List Value},pU (a++c) xs=true->pU a (xs.take a.length)=true/\pU c (xs.drop a.length)=true
 |[],c,xs,h=>by simpa[pU]using h
 |k::a,c,[],h=>by cases h
 |k::a,c,v::vs,h=>by
  simp only[List.cons_append,pU,pM]at h
  obtain⟨h1,h2⟩:=Il h.2
  simp[pU,h.1,h1,h2]
theorem TB:∀(a b c d:List Value),a.length=b.length->Ub (a++c) (b++d)=(Ub a b&&Ub c d)
 |[],[],c,d,_=>by simp[Ub]
 |x::a,y::b,c,d,h=>by
  have:=TB a b c d (by simpa using h)
  simp[Ub,this,Bool.and_assoc]
 |[],y::b,c,d,h=>by simp at h
 |x::a,[],c,d,h=>by simp at h
theorem FI{t:TypeId}{dd:TypeDesc}{z o:Nat}{cs:List Value}(hu:P.underlying t=some dd)(hz:(P.info? t).map (·.size)=some z)(hr:isRow dd=true):(part t cs.toArray o).run P w=.ok (.agg ((cs.drop o).take z).toArray) w:=by
 have hg:=vP (w:=w) hu
 rw[hr]at hg
 cases hq:P.info? t with
 |none=>rw[hq]at hz;cases hz
 |some i=>
  rw[hq]at hz
  have h1:i.size=z:=by simpa using hz
  have hx2:cs.toArray.extract o (o+z)=((cs.drop o).take z).toArray:=by
   rw[List.extract_toArray,List.extract_eq_take_drop];simp
  simp[part,hg,sizeOf,typeInfo,hq,h1,hx2]
theorem Xq{t:TypeId}{dd:TypeDesc}{o:Nat}{cs:List Value}{v:Value}(hu:P.underlying t=some dd)(hr:isRow dd=false)(hv:cs[o]?=some v):(part t cs.toArray o).run P w=.ok v w:=by
 have hg:=vP (w:=w) hu
 rw[hr]at hg
 simp[part,hg,hv]
def tP(dd:TypeDesc)(xs:List Value):Value:=if isRow dd then .agg xs.toArray else xs.getD 0 undef
theorem aDd:∀(d:Nat) (t:TypeId) (ks:List EK) (dd:TypeDesc) (xs ys:List Value),ek P d t=some ks->P.underlying t=some dd->pU ks xs=true->pU ks ys=true->(Op.equalIn d t (tP dd xs) (tP dd ys)).run P w=.ok (Ub xs ys) w:=by
 intro d
 induction d with
 |zero=>intro t ks dd xs ys h;cases h
 |succ d ih=>
  intro t ks dd xs ys h hu hx hy
  unfold ek at h
  rw[hu]at h
  cases dd<;>try (cases h;done)
  case bool=>
   simp only[Bs]at h;subst h
   match xs,ys,hx,hy with
   |[.bool a],[.bool b],_,_=>simp[tP,isRow,Ub,veq,run_equalIn_bool' w d t a b hu]
  case int k=>
   simp only[Bs]at h;subst h
   obtain⟨v,rfl,hv⟩:=F0 hx
   obtain⟨u,rfl,QH⟩:=F0 hy
   cases v<;>try (simp[J9]at hv;done)
   cases u<;>try (simp[J9]at QH;done)
   rename_i k1 a k2 b
   simp only[J9,Ae]at hv QH
   subst hv QH
   simp[tP,isRow,Ub,veq,run_equalIn_int w d t k k a b hu]
  case string=>
   simp only[Bs]at h;subst h
   match xs,ys,hx,hy with
   |[.string a],[.string b],_,_=>simp[tP,isRow,Ub,veq,run_equalIn_string w d t a b hu]
  case struct fs=>
   dsimp only at h
   cases hp:P.stoodInHeld t with
   |true=>rw[hp]at h;cases h
   |false=>
    rw[hp]at h
    simp only[fN]at h
    have hf:P.fieldsOf t=fs:=by simp[Program.fieldsOf,hu]
    have hS:P.underlying t=some (.struct (P.fieldsOf t)):=by rw[hf];exact hu
    have e1:tP (.struct fs) xs=.agg xs.toArray:=rfl
    have e2:tP (.struct fs) ys=.agg ys.toArray:=rfl
    rw[e1,e2,run_equalIn_agg w d t _ _ hS hp,hf]
    have key:∀(fl:List Field) (o:Nat) (ks:List EK),ekF (ek P d) P fl o=some ks->pU ks (xs.drop o)=true->pU ks (ys.drop o)=true->(Op.eqFields d xs.toArray ys.toArray fl).run P w=.ok (Ub (xs.drop o) (ys.drop o)) w:=by
     intro fl
     induction fl with
     |nil=>
      intro o ks h1 h2 h3
      simp only[ekF,Bs]at h1
      subst h1
      have l2:=pZ h2
      have l3:=pZ h3
      rw[Z2 l2,Z2 l3]
      rfl
     |cons x fl ihf=>
      intro o ks h1 h2 h3
      unfold ekF at h1
      cases g1:ek P d x.type with
      |none=>rw[g1]at h1;cases h1
      |some a=>
       cases g2:P.underlying x.type with
       |none=>rw[g1,g2]at h1;cases h1
       |some dx=>
        cases g3:(P.info? x.type).map (·.size)with
        |none=>rw[g1,g2,g3]at h1;cases h1
        |some z=>
         rw[g1,g2,g3]at h1
         simp only[Option.getD_some]at h1
         cases g4:ekF (ek P d) P fl (o+a.length)with
         |none=>rw[g4]at h1;cases h1
         |some c=>
          rw[g4]at h1
          dsimp only at h1
          cases g5:((x.name != "_")&&Nat.beq x.offset o&&Nat.beq z a.length&&(isRow dx||Nat.beq a.length 1))with
          |false=>rw[g5]at h1;cases h1
          |true=>
           rw[g5]at h1
           simp only[tV,Bs]at h1
           subst h1
           simp only[pM,bne_iff_ne,ne_eq]at g5
           obtain⟨⟨⟨n1,n2⟩,n3⟩,n4⟩:=g5
           have n2:=P4 n2
           have n3:=P4 n3
           obtain⟨c1,c2⟩:=Il h2
           obtain⟨c3,c4⟩:=Il h3
           rw[List.drop_drop]at c2 c4
           have r:=ih x.type a dx _ _ g1 g2 c1 c3
           have rest:=ihf (o+a.length) c g4 c2 c4
           have px:(part x.type xs.toArray x.offset).run P w=.ok (tP dx ((xs.drop o).take a.length)) w:=by
            rw[n2]
            cases hr:isRow dx with
            |true=>rw[FI g2 g3 hr,n3];simp[tP,hr]
            |false=>
             rw[hr]at n4
             have n4:a.length=1:=P4 (by simpa using n4)
             have l1:=pZ c1
             rw[n4]at l1 ⊢
             have hv:xs[o]?=some (((xs.drop o).take 1).getD 0 undef):=by
              cases hd:xs.drop o with
              |nil=>rw[hd]at l1;cases l1
              |cons v r=>
               have:(xs.drop o)[0]?=some v:=by rw[hd];rfl
               rw[WA,P1]at this
               rw[this];rfl
             rw[Xq g2 hr hv];simp[tP,hr]
           have py:(part x.type ys.toArray x.offset).run P w=.ok (tP dx ((ys.drop o).take a.length)) w:=by
            rw[n2]
            cases hr:isRow dx with
            |true=>rw[FI g2 g3 hr,n3];simp[tP,hr]
            |false=>
             rw[hr]at n4
             have n4:a.length=1:=P4 (by simpa using n4)
             have l1:=pZ c3
             rw[n4]at l1 ⊢
             have hv:ys[o]?=some (((ys.drop o).take 1).getD 0 undef):=by
              cases hd:ys.drop o with
              |nil=>rw[hd]at l1;cases l1
              |cons v r=>
               have:(ys.drop o)[0]?=some v:=by rw[hd];rfl
               rw[WA,P1]at this
               rw[this];rfl
             rw[Xq g2 hr hv];simp[tP,hr]
           have hsplit:Ub (xs.drop o) (ys.drop o)=(Ub ((xs.drop o).take a.length) ((ys.drop o).take a.length)&&Ub (xs.drop (o+a.length)) (ys.drop (o+a.length))):=by
            have s1:=(i7 a.length (xs.drop o)).symm
            have s2:=(i7 a.length (ys.drop o)).symm
            conv=>lhs;rw[s1,s2]
            rw[TB _ _ _ _ (by rw[pZ c1,pZ c3]),List.drop_drop,List.drop_drop]
           simp only[Op.eqFields,Sem.run_bind]
           rw[if_pos n1]
           rw[Sem.run_bind,px,Result.andThen_ok,Sem.run_bind,py,Result.andThen_ok,Sem.run_bind,r,Result.andThen_ok,hsplit]
           cases Ub ((xs.drop o).take a.length) ((ys.drop o).take a.length)with
           |false=>simp
           |true=>simpa using rest
    have:=key fs.toList 0 ks h (by simpa using hx) (by simpa using hy)
    simpa using this
def eqf(P:Program)(t:TypeId):Option (List EK):=bif P.eqGuardType P.depth t then none else match P.underlying t with
 |some (.struct _)=>ek P 10000 t
 |_=>none
theorem J1{t:TypeId}{ks:List EK}(h:eqf P t=some ks):P.eqGuardType P.depth t=false/\(∃fs,P.underlying t=some (.struct fs))/\ek P 10000 t=some ks:=by
 unfold eqf at h
 cases hg:P.eqGuardType P.depth t with
 |true=>rw[hg]at h;cases h
 |false=>
  rw[hg]at h
  simp only[fN]at h
  split at h
  ·rename_i fs hu;exact⟨rfl,⟨fs,hu⟩,h⟩
  ·cases h
theorem aF5{xt yt:TypeId}{x y:Operand}{ks:List EK}{xs ys:List Value}(hk:eqf P xt=some ks)(hx:ev n e x=some (.agg xs.toArray))(hy:ev n e y=some (.agg ys.toArray))(cx:pU ks xs=true)(cy:pU ks ys=true):Y P n e ⟨d,.binOp .neq xt x y yt,ty,ps,af,g⟩ w (.bool (!Ub xs ys)) w:=by
 obtain⟨h1,⟨fs,h2⟩,h3⟩:=J1 hk
 have r:=aDd (P:=P) (w:=w) 10000 xt ks (.struct fs) xs ys h3 h2 cx cy
 refine bc hx hy ?_
 rw[Sem.run_bind,run_eqGuard_agg w _ _ _ _ _ _ h1,Result.andThen_ok,run_neq_struct]
 show Result.andThen ((Op.equalIn 10000 xt (tP (.struct fs) xs) (tP (.struct fs) ys)).run P w) _=_
 rw[r];rfl
end Go.E
end
section
namespace Go.E
variable{P:Program}{n:Nat}{K:kG}{e:Tm}{w:World}{ops:Array Oper}{l:List Oper}{S:World->Prop}{ls:List (Oper×Bool)}{B:World}{L L':List As}
variable{d:Option Tmp}{ty:TypeId}{ps:String}{af:Array Edge}{g:Option (Nat×Bool)}
theorem GO{α:Type}{enc:α->List Value}{sz:Nat}(he:∀x,(enc x).length=sz)(a:α):∀(xs:List α) (j:Nat),j<xs.length->(xs.set j a).flatMap enc=(xs.flatMap enc).take (j*sz)++enc a++(xs.flatMap enc).drop (j*sz+sz)
 |[],j,h=>by simp at h
 |y::xs,0,h=>by
  simp only[List.set_cons_zero,HY,Nat.zero_mul,List.take_zero,Qs,wS]
  rw[List.drop_append,he,List.drop_of_length_le (by rw[he];omega),Nat.sub_self];simp
 |y::xs,j+1,h=>by
  simp only[List.set_cons_succ,HY]
  rw[GO he a xs j (by simpa using h),List.take_append,List.drop_append,he,Nat.succ_mul,xW (l:=enc y) (by rw[he];omega),List.drop_of_length_le (l:=enc y) (by rw[he];omega),show j*sz+sz-sz=j*sz by omega,show j*sz+sz+sz-sz=j*sz+sz by omega]
  simp
theorem sor{α:Type}{t el:TypeId}{x y:Operand}{b c m j sz:Nat}{v:Value}{enc:α->List Value}{xs:List α}{a:α}(h:SH B w L)(hT:(P.info? t).map (·.size)=some sz)(he:∀x,(enc x).length=sz)(ho:∀x,(enc x).all Value.oneCell'=true)
  (hx:ev n e x=some (.pointer (some ⟨b,0+j*sz,none⟩))) (hy:ev n e y=some v) (hv:v.cells=(enc a).toArray) (hj:j<m) (hm:xs.length=m)
  (up:xO L L' (aV el sz (.slice (some ⟨b,0,none⟩) m c) m (xs.flatMap enc)) (aV el sz (.slice (some ⟨b,0,none⟩) m c) m ((xs.set j a).flatMap enc))):F P n e ⟨d,.store t x y,ty,ps,af,g⟩ w λ_ w'=>SH B w' L':=by
 obtain⟨mm,m0,m1,_⟩:=up.ix
 have Eh:w.ownsRow 0 el sz (.slice (some ⟨b,0,none⟩) m c) m (xs.flatMap enc):=by obtain⟨_,O,R,hp,_⟩:=h;exact(hp mm _ m1).1
 rcases Eh.2 with⟨h1,_⟩|⟨b',cap,cur,h1,h2,h3,h4,h5,h6,h7⟩
 ·cases h1
 injection h1 with h1 _ h8
 injection h1 with h1;injection h1 with h1
 subst h1 h8
 have hl:j*sz+sz<=m*sz:=by rw[<- Nat.succ_mul];exact NI _ hj
 have KX:m*sz<=cur.size:=by rw[h6];exact NI _ h4
 have oP:=run_storeCells_at P b (j*sz) el (enc a) 0 cur w h3 (by rw[he];omega) (λv hv=>List.all_eq_true.1 (ho a) v hv)
 rw[P1,he]at oP
 refine⟨undef,w.setRow b (cur.toList.take (j*sz)++enc a++cur.toList.drop (j*sz+sz)).toArray,.inr ⟨λf hf=>?_,rfl⟩,?_⟩
 ·cases hq:P.info? t with
  |none=>rw[hq]at hT;cases hT
  |some i=>
   rw[hq]at hT
   have g4:i.size=sz:=by simpa using hT
   have g5:v.cells.size=sz:=by rw[hv];simp[he]
   have g7:v.cells.toList=enc a:=by rw[hv]
   rw[wS]at hx
   simp[execOp,hf.eval hx,hf.eval hy,Instr.storeAt,Instr.sureAddr,storeVar,sizeOf,typeInfo,hq,g4,g5,g7,oP]
 ·refine h.step up λO R hA=>⟨O,R,⟨⟨?_,.inr ⟨b,c,_,rfl,h2,setRow_heap _ _ _ _ _ _ h3,h4,h5,?_,?_⟩⟩,hA.2⟩,⟨⟨rfl,rfl,rfl⟩,by simp[World.setRow],λk hk hn=>setRow_other _ _ _ _ λe=>hn ((hA.2.1 k).2 (by rw[e];rfl))⟩,λk hk=>.inl hk,λk hk=>.inr (.inl hk)⟩
  ·rw[zZ he,tS,hm]
  ·have:cur.toList.length=cur.size:=rfl
   simp only[List.size_toArray,cV,lI,Bp,he,this];omega
  ·rw[GO he a xs j (by omega),<- h7]
   have:cur.toList.length=cur.size:=rfl
   have e1:(cur.toList.take (j*sz)).length=j*sz:=by rw[lI,this];omega
   have e2:(cur.toList.take (j*sz)++enc a).length=j*sz+sz:=by rw[cV,e1,he]
   show (cur.toList.take (j*sz)++enc a++cur.toList.drop (j*sz+sz)).take (m*sz)=_
   rw[List.take_append,e2,xW (by rw[e2];omega),List.take_take,Hc (by omega),List.drop_take]
theorem vO{α:Type}{enc:α->List Value}{sz:Nat}(he:∀x,(enc x).length=sz)(hs:0<sz){z:Value}{d:α}(hz:z.cells=(enc d).toArray)(m:Nat):(madeCells z.cells (m*sz)).toList=(List.replicate m d).flatMap enc:=by
 apply List.ext_getElem?
 intro i
 by_cases hi:i<m*sz
 ·have hq:i/sz<m:=Nat.div_lt_of_lt_mul (by rw[Nat.mul_comm];exact hi)
  have hr:i%sz<sz:=Nat.mod_lt _ hs
  have hd:i/sz*sz+i%sz=i:=by rw[Nat.mul_comm];exact Nat.div_add_mod i sz
  have h1:((List.replicate m d).flatMap enc)[i]?=(enc d)[i%sz]?:=by
   have:=zE he (List.replicate m d) (i/sz) (i%sz) d (by rw[List.getElem?_replicate,if_pos hq]) hr
   rwa [hd]at this
  rw[h1,hz]
  have hl:(enc d).toArray.size=sz:=by simp[he]
  simp only[madeCells,Array.toList_map,Array.toList_range,AG,List.getElem?_range hi,Ze,hl]
  simp[he,hr]
 ·rw[List.getElem?_eq_none (by simp[madeCells];omega),List.getElem?_eq_none (by rw[zZ he,NU];omega)]
theorem mx{x y:Operand}{ats:Array TypeId}{k k':IntKind}{a b c:Int}(hx:ev n e x=some (.int k a))(hy:ev n e y=some (.int k' b))(hc:(if b>a then b else a)=c):Y P n e ⟨d,.call ⟨.builtin .max,#[x,y],ats⟩,ty,ps,af,g⟩ w (.int k c) w:=λf hf=>by
 have:=run_max_int2 (P:=P) (w:=w) ats ty k k' a b
 rw[hc]at this
 simp[execOp,resolve,invoke,builtin,hf.eval hx,hf.eval hy,this]
theorem SH.rb{b:Nat}{cs:List Value}{t:TypeId}(h:SH B w L)(m:At L (rb b cs t)):w.heap[b]?=some (.cells cs.toArray t (0,0)):=by
 obtain⟨_,_,h1⟩:=h.at_ m;exact h1.1
theorem Hs.rb{F:List As}{b:Nat}{cs:List Value}{t:TypeId}(h:Hs F w)(m:At F (rb b cs t)):w.heap[b]?=some (.cells cs.toArray t (0,0)):=by
 obtain⟨_,_,h1⟩:=h _ m;exact h1.1
theorem SH.rbc{b:Nat}{cs:List Value}{t:TypeId}{j:Nat}{v:Value}(h:SH B w L)(m:At L (Go.E.rb b cs t))(hj:cs[j]?=some v):w.cell? ⟨b,j,none⟩=some v:=by
 simp[World.cell?,h.rb m,hj]
theorem Hs.rbc{F:List As}{b:Nat}{cs:List Value}{t:TypeId}{j:Nat}{v:Value}(h:Hs F w)(m:At F (Go.E.rb b cs t))(hj:cs[j]?=some v):w.cell? ⟨b,j,none⟩=some v:=by
 simp[World.cell?,h.rb m,hj]
theorem SH.WK{sz m c:Nat}{p:Option Addr}{xs:List Value}(h:SH B w L)(m':At L (bS sz (.slice p m c) m xs)):m<=c:=by
 obtain⟨_,_,h1⟩:=h.at_ m'
 rcases h1.1.2 with⟨h2,h3⟩|⟨g,o,cap,h2,_,h3,h4,_⟩
 ·rw[h3];exact bZ _
 ·injection h2 with _ _ h2;rw[h2];exact h3
end Go.E
end
section
namespace Go.E
variable{P:Program}{n:Nat}{K:kG}{e:Tm}{w:World}{ops:Array Oper}{l:List Oper}{S:World->Prop}{ls:List (Oper×Bool)}{B:World}{L L':List As}
variable{d:Option Tmp}{ty:TypeId}{ps:String}{af:Array Edge}{g:Option (Nat×Bool)}
theorem xO.self{α:Type}{L L':List α}{a:α}(u:xO L L' a a):L'=L:=by
 obtain⟨k,h1,h2⟩:=u.set
 rw[h2]
 have hl:=(List.getElem?_eq_some_iff.1 h1).1
 rw[fV hl]at h1
 injection h1 with h1
 rw[<- h1,List.set_getElem_self]
theorem ZC{t el:TypeId}{ats:Array TypeId}{x y:Operand}{z v:Value}{sz bt m k c q:Nat}{p:Option Addr}{xs news zs:List Value}{L':Value->List As}(h:SH B w L)(mr:At L (bS sz (.slice p k c) k news))(mo:At L (aV el sz v m xs))(ht:P.underlying t=some (.slice el))(h0:ats=#[t,t])(hz:sB P el=some (z,sz,bt))(fC:z.cells.size=sz)(hsz:0<sz)
  (hx:ev n e x=some v) (hy:ev n e y=some (.slice p k c)) (up:∀v',xO L (L' v') (aV el sz v m xs) (aV el sz v' q zs)) (h1:∀u∈news,Value.oneCell' u=true) (hq:m+k=q) (hxs:xs++news=zs) (h63:q<=maxLen) (hb:q*bt<=140737488355328):
  F P n e ⟨d,.call ⟨.builtin .append,#[x,y],ats⟩,ty,ps,af,g⟩ w λv w'=>∃p c,v=.slice p q c/\SH B w' (L' v):=by
 obtain⟨_,_,hA⟩:=h.at_ mr
 rcases hA.1.2 with⟨h2,h3⟩|⟨b,o,cap,h2,_⟩
 ·injection h2 with e1 e2 e3
  subst e1 e2 e3
  have hn:news=[]:=by have:=hA.1.1;exact Z2 (by omega)
  subst hn
  rw[OE]at hxs
  have N4:m=q:=by omega
  subst hxs N4
  have e4:=(up v).self
  obtain⟨pp,cc,hv⟩:=h.fo mo
  exact⟨v,w,.inl (ap0 h mo ht h0 hz hx hy),pp,cc,hv,by rw[e4];exact h⟩
 ·injection h2 with e1
  subst e1
  exact ap h ht h0 hz fC hsz hx hy up (h.rr mr) h1 hq hxs h63 hb
theorem bpe{xt yt el:TypeId}{x y:Operand}{p:Option Addr}(ht:P.underlying xt=some (.pointer el))(hx:ev n e x=some (.pointer p))(hy:ev n e y=some (.pointer none)):Y P n e ⟨d,.binOp .eql xt x y yt,ty,ps,af,g⟩ w (.bool p.isNone) w:=
 bc hx hy (by
  have h:=run_eql_pointer_nil (P:=P) w xt p (by rw[ht];simp[Program.pointee,ht])
  simp[eqGuard,h])
theorem QO{o:Oper}{a:Act}{j t:Nat}{c:Bool}(hg:o.guard=some (j,c))(hj:(ops[j]?).bind (·.dst)=some t)(ha:Fits n e a)(ht:ev n e (.tmp t)=some undef):Region.wanted o (yielded ops a.tmps)=false:=by
 unfold Region.wanted
 rw[hg]
 have hlt:t<n:=(BF ht).1
 have h1:a.tmps.getD t undef=undef:=by
  have:=ha.eval ht;exact this
 have h2:a.tmps[t]?=some undef:=by
  have hs:=ha.size
  rw[Zq4,WH (by omega)]at h1
  rw[WH (by omega)]
  exact congrArg some h1
 dsimp only
 unfold yielded
 rw[hj,Option.bind_some,h2]
 cases c<;>rfl
variable{op:Op}
theorem gU{j t:Nat}{c:Bool}(hj:(ops[j]?).bind (·.dst)=some t)(ht:ev n e (.tmp t)=some undef)(k:X P n ops l K (Tm.put e d undef) w):X P n ops (⟨d,op,ty,ps,af,some (j,c)⟩::l) K e w:=λa ha=>by
 unfold gA
 rw[if_neg (by rw[QO (o:=⟨d,op,ty,ps,af,some (j,c)⟩) rfl hj ha ht];simp)]
 exact k _ (ha.put _ _)
theorem gUs{j t:Nat}{c f:Bool}(hj:(ops[j]?).bind (·.dst)=some t)(ht:ev n e (.tmp t)=some undef)(k:XS P n ops S ls K (Tm.put e d undef) w):XS P n ops S ((⟨d,op,ty,ps,af,some (j,c)⟩,f)::ls) K e w:=λa ha=>by
 have hw:Region.wanted (⟨d,op,ty,ps,af,some (j,c)⟩:Oper) (yielded ops a.tmps)=false:=QO (o:=⟨d,op,ty,ps,af,some (j,c)⟩) rfl hj ha ht
 cases f with
 |true=>exact⟨undef,.inr ⟨hw,rfl⟩,k _ (ha.put _ _)⟩
 |false=>
  unfold wpS
  rw[if_neg (by rw[hw];simp)]
  exact k _ (ha.put _ _)
def ce(b j:Nat)(v:Value):As where
 p w O R:=w.cell? ⟨b,j,none⟩=some v/\(∀k,¬O k)/\∀k,R k↔k=b
 loc h _ hk:=⟨(World.cell?_of_block (hk b (.inr ((h.2.2 b).2 rfl)))).trans h.1,h.2⟩
 DC {w O R k} h hk:=by
  rcases hk with hk|hk
  ·exact absurd hk (h.2.1 _)
  ·rw[(h.2.2 _).1 hk];exact World.block_lt_of_cell? _ _ h.1
 DZ h hk:=absurd hk (h.2.1 _)
theorem hN:Hs [] w:=λA m=>by cases m
theorem hC{A:As}{F:List As}(h1:∃O R,A.p w O R)(h2:Hs F w):Hs (A::F) w:=λB m=>by
 cases m with
 |z=>exact h1
 |s m=>exact h2 _ m
theorem SH.tX{b:Nat}{cs:List Value}{t:TypeId}{j:Nat}{v:Value}(h:SH B w L)(m:At L (bl b cs t))(hj:cs[j]?=some v):∃O R,(ce b j v).p w O R:=⟨λ_=>False,λk=>k=b,h.c m hj,λ_ h=>h,λ_=>Iff.rfl⟩
theorem Hs.ce{F:List As}{b j:Nat}{v:Value}(h:Hs F w)(m:At F (Go.E.ce b j v)):w.cell? ⟨b,j,none⟩=some v:=by
 obtain⟨_,_,h1⟩:=h _ m;exact h1.1
theorem drC{P:Program}{n:Nat}{K:kG}{e:Tm}{ops:Array Oper}{id:Nat}{F:List As}(is:List Nat)(hc:BX P ops (dec is)=true)(h:SH B w L)(p:∀w,SH B w L->Hs F w)(k:∀w,SH B w L->XS P n ops (Hs F) (opsOf ops (dec is)) K e w):C P n (.region id ops true) K e w:=
 dr (Hs F) (dec is) hc (p _ h.drew) (k _ h.drew)
end Go.E
end
section
namespace Go.E
variable{P:Program}{n:Nat}{K:kG}{e:Tm}{w:World}{ops:Array Oper}{l:List Oper}{S:World->Prop}{ls:List (Oper×Bool)}{B:World}{L L':List As}
theorem wpQ{o:Oper}{a:Act}{R:Act->World->Prop}{Q Q':Exit->Act->World->Prop}(h1:∀c a w,Q' (.panic c) a w->Q (.panic c) a w)(h2:LetsOut Q'->LetsOut Q)(h:o.wp P a w R Q'):o.wp P a w R Q:=by
 unfold Oper.wp at h ⊢
 generalize (execOp a.eval o).run P w=r at *
 cases r with
 |ok x w'=>
  cases x<;>simp only[Oper.upon]at h ⊢<;>first
   |exact h
   |(refine Calls.mono h λe w'' he=>?_;cases e<;>first|exact he|exact h1 _ _ _ he|exact h2 he)
 |halt x w'=>cases x<;>simp only[Oper.upon]at h ⊢<;>first|exact h1 _ _ _ h|exact h
def Jo(P:Program)(md:Region.Mode)(ops:Array Oper)(Q:Exit->Act->World->Prop)(S:World->Prop)(z:Nat):Nat->Array Bool->Act->World->Prop
 |0,listed,a,w=>Region.ready md ops listed=[]/\Q .normal a w
 |fuel+1,listed,a,w=>
  (Region.ready md ops listed=[]->Q .normal a w)/\
  ∀i∈Region.ready md ops listed,wpOp P ops Q i (λa' w'=>(i≠z->S w')/\Jo P md ops Q S z fuel (listed.setIfInBounds i true) a' w') a w
variable{md:Region.Mode}{Q:Exit->Act->World->Prop}{z:Nat}
theorem Pa:∀(fuel:Nat) (listed:Array Bool) (a:Act) (w:World),Jo P md ops Q S z fuel listed a w->wpAny P md ops Q fuel listed a w
 |0,_,_,_,h=>h
 |fuel+1,_,_,_,h=>⟨h.1,λi hi=>wpOp_mono (λa' w' h'=>Pa fuel _ a' w' h'.2) (h.2 i hi)⟩
theorem Zo{i:Nat}{oi:Oper}{v:Value}(hi:ops[i]?=some oi)(hiz:i≠z)(hz:∀oz,ops[z]?=some oz->∃e∈oz.after,Region.binds md e=true/\e.on=i)(KD:∀(j:Nat) (o:Oper) cs b,ops[j]?=some o->o.op≠.select cs b)
  (hQ:∀c a w,Q (.panic c) (a.put oi.dst v) w->Q (.panic c) a w):
  ∀(fuel:Nat) (listed:Array Bool) (a:Act) (w:World),
   (∀j oj,ops[j]?=some oj->j≠i->listed.getD j true=false->(∀e∈oj.after,Region.binds md e=true->e.on≠i)->oi.apart ops oj=true)->
   i∈Region.ready md ops listed->YieldsIf P ops S oi v a->S w->
   Jo P md ops Q S z fuel (listed.setIfInBounds i true) (a.put oi.dst v) w->Jo P md ops Q S z (fuel+1) listed a w:=by
 intro fuel
 induction fuel with
 |zero=>
  intro listed a w _ hr hy hS H
  refine⟨λh=>(by rw[h]at hr;cases hr),λj hj=>?_⟩
  by_cases Jv:j=i
  ·subst Jv;exact hy.wpOp hi hS ⟨λ_=>hS,H⟩
  ·have:=ready_mono hj Jv
   rw[H.1]at this
   cases this
 |succ fuel ih=>
  intro listed a w Lm hr hy hS H
  refine⟨λh=>(by rw[h]at hr;cases hr),λj hj=>?_⟩
  by_cases Jv:j=i
  ·subst Jv;exact hy.wpOp hi hS ⟨λ_=>hS,H⟩
  ·have h1:=H.2 j (ready_mono hj Jv)
   obtain⟨KI,oj,ZN,L8⟩:=mem_ready.1 hj
   have YW:∀e∈oj.after,Region.binds md e=true->e.on≠i:=λe he hb heq=>by
    have h1:=L8 e he hb
    have h0:=(mem_ready.1 hr).1
    rw[heq]at h1
    rcases Gg i listed.size with h'|h'
    ·simp[h']at h0 h1;rw[h0]at h1;cases h1
    ·simp[Array.getElem?_eq_none h']at h1
   have hjz:j≠z:=λez=>by
    subst ez
    obtain⟨e,he,hb,hei⟩:=hz oj ZN
    exact YW e he hb hei
   have h2:=wpOp_putIf ZN (Lm j oj ZN Jv KI YW) (λcs b=>KD i oi cs b hi) (λcs b=>KD j oj cs b ZN) hQ hy h1
   have Tu:∀k ok,ops[k]?=some ok->k≠i->(listed.setIfInBounds j true).getD k true=false->
     (∀e∈ok.after,Region.binds md e=true->e.on≠i)->oi.apart ops ok=true:=λk ok hk hki hun hno=>by
    refine Lm k ok hk hki ?_ hno
    by_cases Em:j=k
    ·subst Em;exact KI
    ·rw[getD_set_ne true Em]at hun;exact hun
   refine wpOp_mono (λa' w' h3=>⟨h3.2.1,ih (listed.setIfInBounds j true) a' w' Tu (ready_mono hr (Ne.symm Jv)) h3.1 (h3.2.1 hjz) ?_⟩) h2
   rw[Array.setIfInBounds_comm _ _ Jv]
   exact h3.2.2
def waits(md:Region.Mode)(ops:Array Oper)(z i:Nat):Bool:=match ops[z]? with
 |some oz=>oz.after.any λe=>Region.binds md e&&Nat.beq e.on i
 |none=>false
theorem NH{i:Nat}(h:waits md ops z i=true):∀oz,ops[z]?=some oz->∃e∈oz.after,Region.binds md e=true/\e.on=i:=λoz ho=>by
 unfold waits at h
 rw[ho]at h
 obtain⟨k,hk,h1⟩:=Array.any_eq_true.1 h
 simp only[pM]at h1
 exact⟨oz.after[k],Array.getElem_mem hk,h1.1,P4 h1.2⟩
def MG(ops:Array Oper)(z:Nat):List (Nat×Bool)->Array Bool->Bool
 |[],listed=>(Region.ready .any ops listed==[z])&&(Region.ready .any ops (listed.setIfInBounds z true)==[])
 |(i,true)::is,listed=>(!Nat.beq i z)&&waits .any ops z i&&Region.free .any ops listed i&&(Region.ready .any ops listed).contains i&&MG ops z is (listed.setIfInBounds i true)
 |(i,false)::is,listed=>(!Nat.beq i z)&&(Region.ready .any ops listed==[i])&&MG ops z is (listed.setIfInBounds i true)
def zK(P:Program)(n:Nat)(ops:Array Oper)(oz:Oper)(K:kG):kG
 |.normal,e,w=>X P n ops [oz] K e w
 |x,e,w=>K x e w
theorem aEs{i z:Nat}(h:(!Nat.beq i z)=true):i≠z:=λe=>by subst e;rw[Nat.beq_refl]at h;cases h
theorem TG(hs:Region.noSelect ops=true)(hz:z<ops.size):∀(is:List (Nat×Bool)) (listed:Array Bool) (a:Act) (w:World),
  MG ops z is listed=true->(∀p∈is,p.1<ops.size)->S w->wpS P ops (lift n (zK P n ops (ops.getD z default) K)) S (opsOf ops is) a w->Jo P .any ops (lift n K) S z (is.length+1) listed a w
 |[],listed,a,w,hc,_,_,h=>by
  simp only[MG,pM,Ae]at hc
  refine⟨λh0=>(by rw[hc.1]at h0;cases h0),λj hj=>?_⟩
  rw[hc.1]at hj
  have hj:j=z:=by simpa using hj
  subst hj
  have hd:ops.getD j default=ops[j]:=by simp[Array.getD,hz]
  have ho:ops[j]?=some (ops.getD j default):=by rw[hd];simp[hz]
  obtain⟨e,h1,h2⟩:=h
  have h3:gA P ops (lift n K) [ops.getD j default] a w:=h2 a h1
  unfold gA at h3
  unfold wpOp
  rw[ho]
  dsimp only
  have key:∀a' w',lift n K .normal a' w'->(j≠j->S w')/\Jo P .any ops (lift n K) S j 0 (listed.setIfInBounds j true) a' w':=λa' w' hq=>⟨λhn=>absurd rfl hn,hc.2,hq⟩
  by_cases hw:Region.wanted (ops.getD j default) (yielded ops a.tmps)=true
  ·rw[if_pos hw]at h3
   rw[if_pos hw]
   exact .inl (Oper.wp_mono (λa w hh=>key a w hh) h3)
  ·rw[if_neg hw]at h3
   rw[if_neg hw]
   exact key _ _ h3
 |(i,true)::is,listed,a,w,hc,hi,hS,h=>by
  simp only[MG,pM]at hc
  obtain⟨v,h1,h2⟩:=h
  have hlt:i<ops.size:=hi (i,true) (by simp)
  have hd:ops.getD i default=ops[i]:=by simp[Array.getD,hlt]
  have ho:ops[i]?=some (ops.getD i default):=by rw[hd];simp[hlt]
  exact Zo ho (aEs hc.1.1.1.1) (NH hc.1.1.1.2) (Region.noSelect_spec hs) (λc a w hq=>absurd hq (λh=>h)) _ _ _ _ (Region.free_spec ho hc.1.1.2) (by simpa using hc.1.2) h1 hS (TG hs hz is _ _ _ hc.2 (λp hp=>hi p (by simp[hp])) hS h2)
 |(i,false)::is,listed,a,w,hc,hi,hS,h=>by
  simp only[MG,pM,Ae]at hc
  have hlt:i<ops.size:=hi (i,false) (by simp)
  have hd:ops.getD i default=ops[i]:=by simp[Array.getD,hlt]
  have ho:ops[i]?=some (ops.getD i default):=by rw[hd];simp[hlt]
  have hi':∀p∈is,p.1<ops.size:=λp hp=>hi p (by simp[hp])
  refine⟨λh0=>(by rw[hc.1.2]at h0;cases h0),λj hj=>?_⟩
  rw[hc.1.2]at hj
  have hj:j=i:=by simpa using hj
  rw[hj]
  clear hj
  unfold wpOp
  rw[ho]
  dsimp only
  unfold opsOf at h
  rw[KP]at h
  unfold wpS at h
  dsimp only at h
  by_cases hw:Region.wanted (ops.getD i default) (yielded ops a.tmps)=true
  ·rw[if_pos hw]at h ⊢
   refine .inl (wpQ (Q':=lift n (zK P n ops (ops.getD z default) K)) (λ_ _ _ h=>h) (λh=>h) (Oper.wp_mono (λa w hh=>⟨λ_=>hh.1,TG hs hz is _ _ _ hc.2 hi' hh.1 hh.2⟩) h))
  ·rw[if_neg hw]at h ⊢
   exact⟨λ_=>hS,TG hs hz is _ _ _ hc.2 hi' hS h⟩
def QW(P:Program)(ops:Array Oper)(is:List (Nat×Bool))(z:Nat):Bool:=
 P.follows .mixedOrders&&Region.noSelect ops&&(is.all λp=>Nat.blt p.1 ops.size)&&Nat.blt z ops.size&&is.length+1==ops.size&&MG ops z is (Array.replicate ops.size false)
theorem drZ{id:Nat}{F:List As}(is:List Nat)(z:Nat)(hc:QW P ops (dec is) z=true)(h:SH B w L)(p:∀w,SH B w L->Hs F w)(k:∀w,SH B w L->XS P n ops (Hs F) (opsOf ops (dec is)) (zK P n ops (ops.getD z default) K) e w):C P n (.region id ops true) K e w:=λa ha=>by
 simp only[QW,pM,Ae,MY]at hc
 obtain⟨⟨⟨⟨⟨h1,h2⟩,h3⟩,h6⟩,h4⟩,h5⟩:=hc
 refine wp_region_any h1 ?_
 have hd:=h.drew
 have:=TG (P:=P) (K:=K) (S:=Hs F) (n:=n) h2 (kY.1 h6) (dec is) _ a w.drew h5 (λp hp=>kY.1 (h3 p hp)) (p _ hd) (k _ hd a ha)
 rw[h4]at this
 exact Pa _ _ _ _ this
theorem xzZ(h:X P n ops [ops.getD z default] K e w):XS P n ops S [] (zK P n ops (ops.getD z default) K) e w:=xz h
variable{d:Option Tmp}{ty:TypeId}{ps:String}{af:Array Edge}{g:Option (Nat×Bool)}
theorem mk0{t el:TypeId}{x y:Operand}{z:Value}{sz bt m:Nat}{k k':IntKind}(h:SH B w L)(ht:P.underlying t=some (.slice el))(hz:sB P el=some (z,sz,bt))(hx:ev n e x=some (.int k 0))(hy:ev n e y=some (.int k' (m:Nat)))(hb:bt*m<=281474976710656)(h63:m<=maxLen):
  F P n e ⟨d,.makeSlice t x y,ty,ps,af,g⟩ w λv w'=>∃b,v=.slice (some ⟨b,0,none⟩) 0 m/\SH B w' (aV el sz (.slice (some ⟨b,0,none⟩) 0 m) 0 []::L):=by
 obtain⟨i,h1,h2,h3,h4⟩:=tQ hz
 obtain⟨w',g1,g2,g3⟩:=run_make_own (P:=P) w 0 t el i z sz ht h1 h2 h3 k k' m (by rw[h4];exact hb) h63 (bZ _)
 exact⟨_,w',.inl λa ha=>by simp[execOp,ha.eval hx,ha.eval hy,g1],_,rfl,BA h g3 g2⟩
end Go.E
end
