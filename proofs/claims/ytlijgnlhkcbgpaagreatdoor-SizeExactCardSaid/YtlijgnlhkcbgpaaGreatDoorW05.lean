/- Parts of a proof: Fz, Bm, BmFns, BmOps, BmAt, Zf, Ct. -/
import Derived.Test.YtlijgnlhkcbgpaaGreatDoorW04
import Derived.ChangeSlices
import Derived.ChangeArms
import Derived.Deep.Slices
import Derived.Lib.SmallJoins
import Derived.ProofKit
import Derived.Lib.TrailingZeros
import Derived.Test.YtlijgnlhkcbgpaaGreatDoorProg
import Derived.WalkKit
import Derived.WalkSpells
import Derived.WalkLawsBesides
import Derived.Laws.Bits64b
import Derived.Lib.Hide
set_option linter.unusedVariables false
set_option linter.unusedSimpArgs false
set_option maxRecDepth 100000
set_option maxHeartbeats 4000000
section
open Go Go.RowKit Go.E Go.ChangeShapes Go.WideShapes
namespace Go.Q9
open Go.Proofs.Tryz
def ZT(W0:World):As where
 p w O R:=Below W0.heap.size W0 w/\(∀k,¬O k)/\∀k,R k↔k<W0.heap.size
 loc {w w' O R} h hz hk:=⟨⟨hz.1.trans h.1.os,hz.2.1.trans h.1.tape,hz.2.2.1.trans h.1.output,lK h.1.size hz.2.2.2,λk hl=>(hk k (.inr ((h.2.2 k).2 hl))).trans (h.1.block k hl)⟩,h.2⟩
 Ua {w O R k} h hk:=hk.elim (λho=>absurd ho (h.2.1 k)) (λhr=>DM ((h.2.2 k).1 hr) h.1.size)
 Wu {w O R k} h ho:=absurd ho (h.2.1 k)
end Go.Q9
namespace Go.E
open Go.Q9 Go.RowKit
theorem SH.ZT(w:World):SH w w [ZT w]:=
 ⟨⟨rfl,rfl,rfl⟩,λ_ _=>False,λ_ k=>k<w.heap.size,λi a ha=>by
  cases i with
  |zero=>simp only[DI,xF]at ha;subst ha;exact⟨Below.refl _ _,λ_ h=>h,λ_=>Iff.rfl⟩
  |succ i=>simp at ha,λi j k hij hi hj=>by simp at hi hj;omega⟩
theorem SH.dC{B w W0:World}{L:List As}(h:SH B w L)(m':At L (Go.Q9.ZT W0)):Below W0.heap.size W0 w:=by
 obtain⟨_,_,h1⟩:=h.at_ m';exact h1.1
end Go.E
namespace Go.Q9
open Go.Proofs.Tryz
section
variable{H:Type}{enc:TypeId×Value->H}{P:Program}{W:World}{sp:Nat->Bool}{held:Bool}
theorem OA{base:Nat}{t e:TypeId}{a:Addr}{len cap:Nat}(ht:P.underlying t=some (.slice e))(h:Value.okWide P W .any base t (.slice (some a) len cap)):a.spot=none/\a.block<W.heap.size:=by
 simp only[Value.okWide,ht,Cell.okWide,Cell.ok,World.has]at h
 obtain⟨_,_,_,h1,row,cells,h2,_⟩:=h
 refine⟨h1,?_⟩
 unfold World.shape? at h2
 cases hq:W.heap[a.block]? with
 |none=>rw[hq]at h2;cases h2
 |some o=>exact(Array.getElem?_eq_some_iff.1 hq).1
theorem zB{base:Nat}{t e:TypeId}{k:IntKind}{v:Value}{d:DataW H}{ps:List MemPlace}(ht:P.underlying t=some (.slice e))(he:P.underlying e=some (.int k))(hc:P.cellsOf e=1)(hval:Value.okWide P W .any base t v)(hd:DataW.Trod enc P W 0 (λ_=>true) held t v d ps):
  ∃(zs:List Int) (p:Option Addr) (c:Nat),v=.slice p zs.length c/\Reads W 1 v zs.length (zs.map (Value.int k)):=by
 obtain⟨a0,len,cap,rfl⟩:=okWide_slice ht hval
 obtain⟨n,hf⟩:=hd
 rcases open_ints ht he hc hf with⟨hcs,hx⟩|⟨a,len',cap',zs,hcs,_,hl,hm,hz,hx,hcell,hwz⟩
 ·simp[Value.cells]at hcs
  obtain⟨rfl,rfl,rfl⟩:=hcs
  exact⟨[],none,0,rfl,rfl,.inl ⟨rfl,rfl⟩⟩
 ·simp[Value.cells]at hcs
  obtain⟨rfl,rfl,rfl⟩:=hcs
  obtain⟨h1,h2⟩:=OA ht hval
  obtain⟨b,o,s⟩:=a
  dsimp only at h1 h2
  subst h1
  simp only[if_true]at hz
  have hlen:(zs.take len).length=len:=by rw[Hg];omega
  refine⟨zs.take len,some ⟨b,o,none⟩,cap,by rw[hlen],by simp,.inr ⟨b,o,cap,by rw[hlen],h2,by rw[hlen];exact hl,hm,λj u hu=>?_⟩⟩
  have hj:j<len:=by have:=(List.getElem?_eq_some_iff.1 hu).1;simp only[mI,hlen]at this;exact this
  have:=hcell j (by omega)
  rw[mP]at this
  rw[this]
  rw[Tx,pJ,if_pos hj,fM (by omega)]at hu
  simp only[Yv,xF]at hu
  rw[<- hu,eX,fM (by omega)];rfl
end
theorem Qk{B w W0:World}{L:List As}(h:SH B w L)(m':At L (ZT W0)){sz n:Nat}{v:Value}{xs:List Value}(hr:Reads W0 sz v n xs):SH B w (bV sz v n xs::L):=h.dup m' λO R hA=>by
 refine⟨λk=>v.ownBlock=some k,⟨⟨hr.1,hr.2.imp id ?_⟩,λ_ h=>h,λ_=>Iff.rfl⟩,λk hk=>(hA.2.2 k).2 ?_⟩
 ·rintro⟨b,off,cap,rfl,g1,g2,g3,g4⟩
  exact⟨b,off,cap,rfl,DM g1 hA.1.size,g2,g3,λj u hu=>(World.cell?_of_block (hA.1.block b g1)).trans (g4 j u hu)⟩
 ·rcases hr.2 with⟨rfl,_⟩|⟨b,off,cap,rfl,g1,_⟩
  ·cases hk
  ·injection hk with hk;exact hk▸g1
end Go.Q9
end
section
namespace Go.Bm
def pop:Nat->Nat->Nat
 |0,_=>0
 |n+1,x=>x%2+pop n (x/2)
theorem lR:∀n x,pop n x<=n
 |0,_=>bD _
 |n+1,x=>by
  have:=lR n (x/2)
  simp only[pop]
  omega
theorem Av:∀m n x,pop (m+n) x=pop m x+pop n (x/2^m)
 |0,n,x=>by simp[pop]
 |m+1,n,x=>by
  rw[Nat.add_right_comm]
  simp only[pop]
  rw[Av m n (x/2),Nat.div_div_eq_div_mul,Nat.pow_succ,Nat.mul_comm 2 (2^m)]
  omega
theorem OF(n x:Nat):pop (n+1) x=pop n x+x/2^n%2:=by
 rw[Av n 1 x]
 simp[pop]
theorem tZ(k x lo m:Nat)(h:lo<2^k):x&&&(lo+2^k*m)=(x%2^k&&&lo)+2^k*(x/2^k&&&m):=by
 have h1:(x&&&(lo+2^k*m))%2^k=x%2^k&&&lo:=by
  rw[Nat.and_mod_two_pow,Nat.add_mul_mod_self_left,Nat.mod_eq_of_lt h]
 have h2:(x&&&(lo+2^k*m))/2^k=x/2^k&&&m:=by
  rw[Nat.and_div_two_pow,Nat.add_mul_div_left _ _ (Nat.two_pow_pos k),Nat.div_eq_of_lt h,xE]
 rw[<- h1,<- h2]
 exact(Nat.mod_add_div _ _).symm
theorem wA(s x:Nat):x&&&(2^s-1)=x%2^s:=Nat.and_two_pow_sub_one_eq_mod x s
def Np:Nat->Nat
 |0=>0
 |n+1=>1+2^2*Np n
def My:Nat->Nat
 |0=>0
 |n+1=>3+2^4*My n
def Yn:Nat->Nat
 |0=>0
 |n+1=>15+2^8*Yn n
def xB:Nat->Nat->Nat
 |0,_=>0
 |n+1,x=>(x%2+x/2%2)+4*xB n (x/4)
def sP:Nat->Nat->Nat
 |0,_=>0
 |n+1,x=>pop 4 x+16*sP n (x/16)
def Jx:Nat->Nat->Nat
 |0,_=>0
 |n+1,x=>pop 8 x+256*Jx n (x/256)
theorem VC:∀n x,(x/2&&&Np n)+(x&&&Np n)=xB n x
 |0,x=>by simp[Np,xB]
 |n+1,x=>by
  have ih:=VC n (x/4)
  simp only[Np,xB]
  rw[tZ 2 (x/2) 1 _ (by decide),tZ 2 x 1 _ (by decide)]
  have a1:x/2%2^2&&&1=x/2%2:=by
   rw[show (1:Nat)=2^1-1 from rfl,wA];omega
  have a2:x%2^2&&&1=x%2:=by
   rw[show (1:Nat)=2^1-1 from rfl,wA];omega
  have e1:x/2/2^2=x/4/2:=by omega
  have e2:x/2^2=x/4:=by omega
  rw[a1,a2,e1,e2]
  omega
theorem PF(n x:Nat):xB (n+1+1) x=(x%2+x/2%2)+4*(x/4%2+x/8%2)+16*xB n (x/16):=by
 simp only[xB]
 have e:x/4/4=x/16:=by omega
 have e3:x/4/2=x/8:=by omega
 rw[e,e3]
 omega
theorem D1(x:Nat):pop 4 x=x%2+x/2%2+(x/4%2+x/8%2):=by
 simp only[pop]
 have e2:x/2/2=x/4:=by omega
 have e3:x/4/2=x/8:=by omega
 rw[e2,e3]
 omega
theorem UO:∀n x,(xB (2*n) x/4&&&My n)+(xB (2*n) x&&&My n)=sP n x
 |0,x=>by simp[My,sP]
 |n+1,x=>by
  have ih:=UO n (x/16)
  have e:2*(n+1)=2*n+1+1:=by omega
  rw[e,PF]
  simp only[My,sP]
  rw[D1]
  generalize xB (2*n) (x/16)=Y at *
  generalize hp0:x%2+x/2%2=p0
  generalize hp1:x/4%2+x/8%2=p1
  have b0:p0<=2:=by omega
  have b1:p1<=2:=by omega
  rw[tZ 4 _ 3 _ (by decide),tZ 4 _ 3 _ (by decide)]
  have a1:(p0+4*p1+16*Y)/4%2^4&&&3=p1:=by
   rw[show (3:Nat)=2^2-1 from rfl,wA];omega
  have a2:(p0+4*p1+16*Y)%2^4&&&3=p0:=by
   rw[show (3:Nat)=2^2-1 from rfl,wA];omega
  have e1:(p0+4*p1+16*Y)/4/2^4=Y/4:=by omega
  have e2:(p0+4*p1+16*Y)/2^4=Y:=by omega
  rw[a1,a2,e1,e2]
  omega
theorem LY(n x:Nat):sP (n+1+1) x=pop 4 x+16*pop 4 (x/16)+256*sP n (x/256):=by
 simp only[sP]
 have e:x/16/16=x/256:=by omega
 rw[e]
 omega
theorem A7(x:Nat):pop 8 x=pop 4 x+pop 4 (x/16):=by
 have:=Av 4 4 x
 simpa using this
theorem MV:∀n x,sP n x%16<=4
 |0,_=>by simp[sP]
 |n+1,x=>by
  have:=lR 4 x
  simp only[sP]
  omega
theorem UL:∀n x,(sP (2*n) x/16+sP (2*n) x)&&&Yn n=Jx n x
 |0,x=>by simp[Yn,Jx]
 |n+1,x=>by
  have ih:=UL n (x/256)
  have e:2*(n+1)=2*n+1+1:=by omega
  rw[e,LY]
  simp only[Yn,Jx]
  rw[A7]
  have hY:=MV (2*n) (x/256)
  generalize sP (2*n) (x/256)=Y at *
  have b0:=lR 4 x
  have b1:=lR 4 (x/16)
  generalize pop 4 x=p0 at *
  generalize pop 4 (x/16)=p1 at *
  rw[tZ 8 _ 15 _ (by decide)]
  have a1:((p0+16*p1+256*Y)/16+(p0+16*p1+256*Y))%2^8&&&15=p0+p1:=by
   rw[show (15:Nat)=2^4-1 from rfl,wA];omega
  have e1:((p0+16*p1+256*Y)/16+(p0+16*p1+256*Y))/2^8=Y/16+Y:=by omega
  rw[a1,e1,ih]
theorem GC:∀n x,xB n x<4^n
 |0,_=>by simp[xB]
 |n+1,x=>by
  have:=GC n (x/4)
  simp only[xB,Nat.pow_succ]
  omega
theorem EV:∀n x,sP n x*15+4<=4*16^n
 |0,_=>by simp[sP]
 |n+1,x=>by
  have:=EV n (x/16)
  have:=lR 4 x
  simp only[sP,Nat.pow_succ]
  omega
theorem CU(x:Nat):∃p0 p1 p2 p3 p4 p5 p6 p7,p0<=8/\p1<=8/\p2<=8/\p3<=8/\p4<=8/\p5<=8/\p6<=8/\p7<=8/\
  Jx 8 x=p0+256*(p1+256*(p2+256*(p3+256*(p4+256*(p5+256*(p6+256*p7))))))/\pop 64 x=p0+p1+p2+p3+p4+p5+p6+p7:=by
 refine⟨pop 8 x,pop 8 (x/256),pop 8 (x/256/256),pop 8 (x/256/256/256),pop 8 (x/256/256/256/256),pop 8 (x/256/256/256/256/256),pop 8 (x/256/256/256/256/256/256),pop 8 (x/256/256/256/256/256/256/256),lR _ _,lR _ _,lR _ _,lR _ _,lR _ _,lR _ _,lR _ _,lR _ _,by simp[Jx],?_⟩
 rw[show (64:Nat)=8+(8+(8+(8+(8+(8+(8+8))))))from rfl]
 simp only[Av,show (2:Nat)^8=256 from rfl]
 omega
theorem YB(a b c:Nat)(h:a<c):(a+c*b)/c=b:=by
 rw[Nat.add_mul_div_left _ _ (by omega),Nat.div_eq_of_lt h,xE]
theorem CK(a b c y:Nat)(h:a<c)(e:y=a+c*b):y+y/c=(a+b)+c*b:=by
 rw[e,YB a b c h];omega
theorem QH(p0 p1 p2 p3 p4 p5 p6 p7:Nat):p0+(p1+256*(p2+256*(p3+256*(p4+256*(p5+256*(p6+256*p7))))))+256*(p1+256*(p2+256*(p3+256*(p4+256*(p5+256*(p6+256*p7))))))=
  (p0+p1+256*(p1+p2))+65536*((p2+p3)+256*(p3+p4)+65536*(p4+p5)+16777216*(p5+p6)+4294967296*(p6+p7)+1099511627776*p7):=by omega
theorem MH(p0 p1 p2 p3 p4 p5 p6 p7:Nat):(p0+p1+256*(p1+p2))+((p2+p3)+256*(p3+p4)+65536*(p4+p5)+16777216*(p5+p6)+4294967296*(p6+p7)+1099511627776*p7)+65536*((p2+p3)+256*(p3+p4)+65536*(p4+p5)+16777216*(p5+p6)+4294967296*(p6+p7)+1099511627776*p7)=
  ((p0+p1+p2+p3)+256*(p1+p2+p3+p4)+65536*(p2+p3+p4+p5)+16777216*(p3+p4+p5+p6))+4294967296*((p4+p5+p6+p7)+256*(p5+p6+p7)+65536*(p6+p7)+16777216*p7):=by omega
theorem NT(p0 p1 p2 p3 p4 p5 p6 p7 X:Nat):((p0+p1+p2+p3)+256*(p1+p2+p3+p4)+65536*(p2+p3+p4+p5)+16777216*(p3+p4+p5+p6))+((p4+p5+p6+p7)+256*(p5+p6+p7)+65536*(p6+p7)+16777216*p7)+4294967296*X=
  (p0+p1+p2+p3+p4+p5+p6+p7)+128*(2*((p1+p2+p3+p4)+(p5+p6+p7)+256*((p2+p3+p4+p5)+(p6+p7))+65536*(p3+p4+p5+p6+p7)+16777216*X)):=by omega
theorem ZI(x:Nat):∃y1 y2 y3:Nat,y1=Jx 8 x+Jx 8 x/256/\y2=y1+y1/65536/\y3=y2+y2/4294967296/\
  y1<18446744073709551616/\y2<18446744073709551616/\y3<18446744073709551616/\y3%128=pop 64 x:=by
 obtain⟨p0,p1,p2,p3,p4,p5,p6,p7,b0,b1,b2,b3,b4,b5,b6,b7,e,ep⟩:=CU x
 have g1:=CK p0 _ 256 _ (by omega) e
 rw[QH]at g1
 have g2:=CK _ _ 65536 _ (by omega) g1
 rw[MH]at g2
 have g3:=CK _ _ 4294967296 _ (by omega) g2
 refine⟨_,_,_,rfl,rfl,rfl,?_,?_,?_,?_⟩
 ·rw[g1];clear g1 g2 g3 e ep;omega
 ·rw[g2];clear g1 g2 g3 e ep;omega
 ·rw[g3];clear g1 g2 g3 e ep;omega
 ·rw[g3,NT,ep]
  clear g1 g2 g3 e ep
  rw[Nat.add_mul_mod_self_left]
  exact Nat.mod_eq_of_lt (by omega)
theorem ZM:Np 32=6148914691236517205/\My 16=3689348814741910323/\Yn 8=1085102592571150095:=by decide
theorem Xx(b i:Nat):b.testBit i=decide (b/2^i%2=1):=by
 rw[Nat.testBit_eq_decide_div_mod_eq]
theorem Oz(b i:Nat):b/2^i%2=(b.testBit i).toNat:=by
 rw[Xx]
 by_cases h:b/2^i%2=1
 ·simp[h]
 ·simp[h];omega
def has(b:Nat)(i:Int):Bool:=decide (0<=i)&&(decide (i<64)&&b.testBit i.toNat)
def cut(i:Int):Nat:=if i<=0 then 0 else if 64<=i then 64 else i.toNat
def aO(b:Nat)(i:Int):Nat:=pop (cut i) b
def cI(b:Nat)(i:Int):Nat:=if 0<=i/\i<64 then b|||2^i.toNat else b
def jD(b:Nat)(i:Int):Nat:=if has b i=true then b-2^i.toNat else b
def Nu(n b:Nat):List Nat:=(List.range n).filter λi=>b.testBit i
def indices(b:Nat):List Nat:=Nu 64 b
def at_(b:Nat)(p:Int):Int:=if 0<=p/\p<(indices b).length then((indices b).getD p.toNat 0:Nat)else -1
theorem cZ(n b:Nat):pop (n+1) b=pop n b+(b.testBit n).toNat:=by
 rw[OF,Oz]
theorem DO:∀n b c,(∀i,i<n->b.testBit i=c.testBit i)->pop n b=pop n c
 |0,_,_,_=>rfl
 |n+1,b,c,h=>by
  rw[cZ,cZ,DO n b c (λi hi=>h i (by omega)),h n (by omega)]
theorem RE(i b:Nat)(h:i<=64):pop 64 (b%2^i)=pop i b:=by
 obtain⟨d,hd⟩:∃d,64=i+d:=⟨64-i,by omega⟩
 rw[hd,Av]
 have e:b%2^i/2^i=0:=Nat.div_eq_of_lt (Nat.mod_lt _ (Nat.two_pow_pos i))
 rw[e]
 have z:∀n,pop n 0=0:=by
  intro n;induction n with
  |zero=>rfl
  |succ n ih=>simp[pop,ih]
 rw[z,KQ]
 apply DO
 intro j hj
 rw[Nat.testBit_mod_two_pow]
 simp[hj]
theorem tM(n b:Nat):(Nu n b).length=pop n b:=by
 induction n with
 |zero=>rfl
 |succ n ih=>
  rw[cZ,<- ih]
  unfold Nu
  rw[List.range_succ,Ab,cO]
  cases h:b.testBit n<;>simp[h]
theorem sI(b:Nat):(indices b).length=pop 64 b:=tM 64 b
theorem Fc(b i j:Nat)(h:b.testBit i=true):(b-2^i).testBit j=(b.testBit j&&!decide (i=j)):=by
 have h1:b/2^i%2=1:=by rw[Nat.testBit_eq_decide_div_mod_eq]at h;simpa using h
 have hr:b%2^i<2^i:=Nat.mod_lt _ (Nat.two_pow_pos i)
 obtain⟨q,hq⟩:∃q,b/2^i=2*q+1:=⟨b/2^i/2,by omega⟩
 have hb:b=2^i*(2*q+1)+b%2^i:=by rw[<- hq];exact(Nat.div_add_mod b (2^i)).symm
 generalize b%2^i=r at *
 have e:b-2^i=2^i*(2*q)+r:=by rw[hb,Nat.mul_add];omega
 rw[e]
 conv=>rhs;rw[hb]
 rw[zE _ hr,zE _ hr]
 by_cases hj:j<i
 ·have:¬i=j:=by omega
  simp[hj,this]
 ·by_cases hij:i=j
  ·subst hij;simp[Nat.testBit_zero]
  ·obtain⟨d,rfl⟩:∃d,j=i+(d+1):=⟨j-i-1,by omega⟩
   have e3:i+(d+1)-i=d+1:=by omega
   rw[if_neg hj,if_neg hj,e3,Nat.testBit_succ,Nat.testBit_succ]
   have d1:(2*q+1)/2=q:=by omega
   have d2:2*q/2=q:=by omega
   rw[d1,d2]
   simp
def andNot(a m:Nat):Nat:=a^^^(a&&&m)
theorem uQ(a m j:Nat):(andNot a m).testBit j=(a.testBit j&&!m.testBit j):=by
 unfold andNot
 rw[Nat.testBit_xor,Nat.testBit_and]
 cases a.testBit j<;>cases m.testBit j<;>rfl
theorem CX(b i:Nat):andNot b (2^i)=if b.testBit i then b-2^i else b:=by
 apply Nat.eq_of_testBit_eq
 intro j
 rw[uQ,Nat.testBit_two_pow]
 by_cases h:b.testBit i=true
 ·rw[if_pos h,Fc b i j h]
 ·rw[if_neg h]
  by_cases hij:i=j
  ·subst hij;simp at h;simp[h]
  ·simp[hij]
theorem lG(n x:Nat):Nu (n+1) x=Nu n x++if x.testBit n then[n]else[]:=by
 unfold Nu
 rw[List.range_succ,Ab]
 cases h:x.testBit n<;>simp[h]
theorem xL(n x:Nat)(h:∀j,j<n->x.testBit j=false):Nu n x=[]:=by
 induction n with
 |zero=>rfl
 |succ n ih=>rw[lG,ih (λj hj=>h j (by omega)),h n (by omega)];rfl
theorem Gy(k x y:Nat)(h0:∀j,j<k->x.testBit j=false)(h1:x.testBit k=true)(hy:∀j,y.testBit j=(x.testBit j&&!decide (k=j))):
  ∀d,Nu (k+1+d) x=k::Nu (k+1+d) y
 |0=>by
  rw[KQ,lG,lG,xL k x h0,xL k y (λj hj=>by rw[hy,h0 j hj];rfl),h1,hy k]
  simp
 |d+1=>by
  rw[<- Nat.add_assoc,lG,lG,Gy k x y h0 h1 hy d,hy (k+1+d)]
  have:¬k=k+1+d:=by omega
  simp[this]
theorem T2(x:Nat)(hx:x≠0)(hlt:x<2^64):∃m,x=2^Lib.ctz 64 x*(2*m+1)/\Lib.ctz 64 x<64:=by
 obtain⟨m,hm,hk⟩:=Lib.ctzFrom_spec 64 x (by omega) hlt
 have e:Lib.ctz 64 x=Lib.ctzFrom 64 x:=by simp[Lib.ctz,hx]
 rw[e]
 exact⟨m,hm,hk⟩
theorem BJ(k m j:Nat):(2^k*(2*m+1)&&&(2^k*(2*m+1)-1)).testBit j=((2^k*(2*m+1)).testBit j&&!decide (k=j)):=by
 have hp:=Nat.two_pow_pos k
 have e:2^k*(2*m+1)-1=2^k*(2*m)+(2^k-1):=by rw[Nat.mul_add];omega
 have e0:2^k*(2*m+1)=2^k*(2*m+1)+0:=rfl
 rw[Nat.testBit_and,e]
 rw[e0,zE _ hp,zE _ (by omega)]
 by_cases hj:j<k
 ·simp[hj]
 ·simp only[hj,if_false]
  by_cases hkj:k=j
  ·subst hkj;simp[Nat.testBit_zero]
  ·obtain⟨d,rfl⟩:∃d,j=k+(d+1):=⟨j-k-1,by omega⟩
   have e3:k+(d+1)-k=d+1:=by omega
   rw[e3,Nat.testBit_succ,Nat.testBit_succ]
   have d1:(2*m+1)/2=m:=by omega
   have d2:2*m/2=m:=by omega
   rw[d1,d2]
   simp
theorem Td(x:Nat)(hx:x≠0)(hlt:x<2^64):indices x=Lib.ctz 64 x::indices (x&&&(x-1)):=by
 obtain⟨m,hm,hk⟩:=T2 x hx hlt
 generalize Lib.ctz 64 x=k at *
 subst hm
 obtain⟨d,hd⟩:∃d,64=k+1+d:=⟨64-k-1,by omega⟩
 unfold indices
 rw[hd]
 have hp:=Nat.two_pow_pos k
 have e0:2^k*(2*m+1)=2^k*(2*m+1)+0:=rfl
 refine Gy k _ _ (λj hj=>?_) ?_ (λj=>BJ k m j) d
 ·rw[e0,zE _ hp];simp[hj]
 ·rw[e0,zE _ hp];simp[Nat.testBit_zero]
theorem vP:indices 0=[]:=xL 64 0 (λj _=>Nat.zero_testBit j)
def drop:Nat->Nat->Nat
 |0,x=>x
 |k+1,x=>drop k x&&&(drop k x-1)
theorem Ur(x:Nat)(h:x<2^64):∀k,drop k x<2^64
 |0=>h
 |k+1=>fU Nat.and_le_left (Ur x h k)
theorem Ey(x:Nat)(h:x<2^64):∀k,indices (drop k x)=(indices x).drop k
 |0=>rfl
 |k+1=>by
  have ih:=Ey x h k
  by_cases hz:drop k x=0
  ·have:drop (k+1) x=0:=by show drop k x&&&_=0;rw[hz];rfl
   rw[this,vP]
   rw[hz,vP]at ih
   rw[<- QR,<- ih]
   rfl
  ·rw[Td _ hz (Ur x h k)]at ih
   rw[<- QR,<- ih]
   rfl
theorem X3(x k:Nat)(h:x<2^64)(hk:k<pop 64 x):Lib.ctz 64 (drop k x)=(indices x).getD k 0:=by
 rw[<- sI]at hk
 have ih:=Ey x h k
 have hz:drop k x≠0:=by
  intro hz
  rw[hz,vP]at ih
  have:=congrArg List.length ih
  simp at this
  omega
 rw[Td _ hz (Ur x h k),cE hk]at ih
 injection ih with h1 _
 rw[h1,eX,fM hk]
 rfl
theorem Zn(b:Nat):pop 0 b=0:=rfl
theorem iM(b:Nat)(i:Int)(h:b<18446744073709551616):cI b i<18446744073709551616:=by
 unfold cI
 split
 ·rename_i hi
  have:2^i.toNat<2^64:=Nat.pow_lt_pow_right (by decide) (by omega)
  have:=Nat.or_lt_two_pow (n:=64) (x:=b) (y:=2^i.toNat) (by simpa using h) this
  simpa using this
 ·exact h
theorem Dz(b:Nat)(i:Int)(h:b<18446744073709551616):jD b i<18446744073709551616:=by
 unfold jD;split
 ·exact fU (Nat.sub_le _ _) h
 ·exact h
theorem gL(b:Nat)(x:Nat)(hx:x<64)(j:Nat):(cI b (x:Int)).testBit j=(b.testBit j||decide (x=j)):=by
 unfold cI
 rw[if_pos (by omega),Nat.testBit_or,dF,Nat.testBit_two_pow]
theorem kW(b:Nat)(x:Nat)(hx:x<64)(j:Nat):(jD b (x:Int)).testBit j=(b.testBit j&&!decide (x=j)):=by
 have e:jD b (x:Int)=andNot b (2^x):=by
  have h1:(x:Int)<64:=by omega
  rw[CX];unfold jD has;simp[h1]
 rw[e,uQ,Nat.testBit_two_pow]
theorem nI(b x:Nat)(hx:x<64):has b (x:Int)=b.testBit x:=by
 have h1:(x:Int)<64:=by omega
 unfold has;simp[h1]
theorem IW(b x y:Nat)(hx:x<64)(hy:y<64):has (cI b x) y=(has b y||decide (x=y)):=by
 rw[nI _ _ hy,nI _ _ hy,gL b x hx]
theorem Su(b x:Nat)(hx:x<64):cI (jD b x) x=cI b x:=by
 apply Nat.eq_of_testBit_eq
 intro j
 rw[gL _ x hx,kW _ x hx,gL _ x hx]
 by_cases h:x=j<;>simp[h]
theorem rQ(b x:Nat)(hx:x<64):∀y,pop y (cI b x)=pop y b+if x<y/\b.testBit x=false then 1 else 0
 |0=>by rw[pop,pop];simp
 |y+1=>by
  rw[cZ,cZ,rQ b x hx y,gL b x hx]
  by_cases hb:b.testBit x=true
  ·have:(b.testBit y||decide (x=y))=b.testBit y:=by
    by_cases h:x=y
    ·subst h;simp[hb]
    ·simp[h]
   simp[hb,this]
  ·have hb':b.testBit x=false:=by simpa using hb
   by_cases h:x=y
   ·subst h;simp[hb']
   ·simp only[hb',h,decide_false,Bool.or_false,and_true]
    by_cases h2:x<y
    ·rw[if_pos h2,if_pos (by omega)];omega
    ·rw[if_neg h2,if_neg (by omega)];omega
theorem Pd(b:Nat):aO b 64=pop 64 b:=rfl
theorem drop_zero(x:Nat):drop 0 x=x:=rfl
theorem s8(k x:Nat):drop (k+1) x=drop k x&&&(drop k x-1):=rfl
attribute [irreducible] pop Nu drop
end Go.Bm
end
section
namespace Go.Q9
open Go.Proofs.Tryz
open Go.RowKit
theorem nG(a b:Nat)(ha:a<18446744073709551616)(hb:b<18446744073709551616):bits .and .u64 (a:Int) (b:Int)=((a&&&b:Nat):Int):=bits_and_u64_nat a b ha hb
theorem Jc(a:Nat)(h:a<18446744073709551616):IntKind.u64.wrap (a:Int)=(a:Int):=by rw[IntKind.wrap_u64];omega
theorem wrap_add(a b:Nat)(h:a+b<18446744073709551616):IntKind.u64.wrap ((a:Int)+(b:Int))=((a+b:Nat):Int):=by rw[IntKind.wrap_u64];omega
theorem Yr(y:Nat)(_h:y<18446744073709551616):bits .and .i64 (wrap64 (y:Int)) 127=((y%128:Nat):Int):=by
 have h1:(BitVec.ofInt 64 (wrap64 (y:Int)))=BitVec.ofNat 64 y:=by
  apply BitVec.eq_of_toNat_eq
  rw[BitVec.toNat_ofInt,BitVec.toNat_ofNat]
  unfold wrap64
  omega
 show IntKind.i64.wrap ((BitVec.ofInt 64 (wrap64 (y:Int))&&&BitVec.ofInt 64 127).toNat:Int)=_
 rw[h1]
 have h2:(BitVec.ofNat 64 y&&&BitVec.ofInt 64 127).toNat=y%128:=by
  rw[BitVec.toNat_and]
  have e:(BitVec.ofInt 64 127).toNat=2^7-1:=by decide
  rw[e,Nat.and_two_pow_sub_one_eq_mod,BitVec.toNat_ofNat]
  omega
 rw[h2]
 exact IntWalk.i64_in _ (by omega)
theorem Ky(x s1 s2 s4 y1 y2 y3 p:Nat)(w:World)
  (e1:IntKind.u64.wrap (bits .and .u64 ((x:Int)/2) 6148914691236517205+bits .and .u64 (x:Int) 6148914691236517205)=(s1:Int))
  (e2:IntKind.u64.wrap (bits .and .u64 ((s1:Int)/4) 3689348814741910323+bits .and .u64 (s1:Int) 3689348814741910323)=(s2:Int))
  (e4:bits .and .u64 (IntKind.u64.wrap ((s2:Int)/16+(s2:Int))) 1085102592571150095=(s4:Int))
  (f1:IntKind.u64.wrap ((s4:Int)+(s4:Int)/256)=(y1:Int))
  (f2:IntKind.u64.wrap ((y1:Int)+(y1:Int)/65536)=(y2:Int))
  (f3:IntKind.u64.wrap ((y2:Int)+(y2:Int)/4294967296)=(y3:Int))
  (f4:bits .and .i64 (wrap64 (y3:Int)) 127=(p:Int)):
  Calls prog 149 #[.int .u64 (x:Int)] w λe w'=>e=.returned (.int .i64 (p:Int))/\w=w':=by
 go_enter func149,ntmps149
 go_wp2
 go_ret
 exact⟨rfl,rfl⟩
theorem IL(x:Nat)(hx:x<18446744073709551616)(w:World):
  Calls prog 149 #[.int .u64 (x:Int)] w λe w'=>e=.returned (.int .i64 (Bm.pop 64 x:Nat))/\w=w':=by
 obtain⟨y1,y2,y3,h1,h2,h3,l1,l2,l3,hp⟩:=Bm.ZI x
 obtain⟨m1,m2,m4⟩:=Bm.ZM
 have b1:=Bm.GC 32 x
 have b2:=Bm.EV 16 x
 have k1:=Bm.VC 32 x
 have k2:=Bm.UO 16 x
 have k4:=Bm.UL 8 x
 simp only[Nat.reduceMul,Nat.reducePow]at b1 b2 k2 k4
 rw[m1]at k1
 rw[m2]at k2
 rw[m4]at k4
 have c1:((6148914691236517205:Nat):Int)=6148914691236517205:=rfl
 have c2:((3689348814741910323:Nat):Int)=3689348814741910323:=rfl
 have c4:((1085102592571150095:Nat):Int)=1085102592571150095:=rfl
 refine Ky x (Bm.xB 32 x) (Bm.sP 16 x) (Bm.Jx 8 x) y1 y2 y3 (Bm.pop 64 x) w ?_ ?_ ?_ ?_ ?_ ?_ ?_
 ·rw[show (x:Int)/2=((x/2:Nat):Int) by omega,<- c1,nG _ _ (by omega) (by decide),nG _ _ (by omega) (by decide),wrap_add,k1]
  rw[k1];omega
 ·rw[show ((Bm.xB 32 x:Nat):Int)/4=((Bm.xB 32 x/4:Nat):Int) by omega,<- c2,nG _ _ (by omega) (by decide),nG _ _ (by omega) (by decide),wrap_add,k2]
  rw[k2];omega
 ·rw[show ((Bm.sP 16 x:Nat):Int)/16=((Bm.sP 16 x/16:Nat):Int) by omega,<- c4,wrap_add _ _ (by omega),nG _ _ (by omega) (by decide),k4]
 ·rw[show ((Bm.Jx 8 x:Nat):Int)/256=((Bm.Jx 8 x/256:Nat):Int) by omega,wrap_add _ _ (by omega),h1]
 ·rw[show (y1:Int)/65536=((y1/65536:Nat):Int) by omega,wrap_add _ _ (by omega),h2]
 ·rw[show (y2:Int)/4294967296=((y2/4294967296:Nat):Int) by omega,wrap_add _ _ (by omega),h3]
 ·rw[Yr y3 l3,hp]
theorem De(x:Nat)(hx:x<18446744073709551616)(w:World):
  Calls prog 108 #[.int .u64 (x:Int)] w λe w'=>e=.returned (.int .i64 (Bm.pop 64 x:Nat))/\w=w':=by
 go_enter func108,ntmps108
 go_wp2_with (go_at_call 149;refine(IL x hx _).mono ?_;rintro e w' ⟨rfl,rfl⟩)
 go_ret
 exact⟨rfl,rfl⟩
def pX(w:World):Prop:=∀j,j<Lib.deBruijn64tab.length->w.cell? ⟨0,j,none⟩=some (.int .u8 (Lib.deBruijn64tab.getD j 0))
theorem j0(x k idx:Nat)(w:World)(hx0:((x:Int)==0)=false)
  (key:IntKind.u64.wrap (bits BinOp.and IntKind.u64 (x:Int) (IntKind.u64.wrap (-(x:Int)))*285870213051353865)/288230376151711744=(idx:Int))
  (hi:idx<64) (hk:k<64) (hcell:w.cell? ⟨0,idx,none⟩=some (.int .u8 k)):
  Calls prog 168 #[.int .u64 x] w λe w'=>e=.returned ↑(k:Int)/\w=w':=by
 go_enter func168,ntmps168
 go_wp2_with (simp only[key])
 go_ret
 exact⟨rfl,rfl⟩
theorem O9(w:World):
  Calls prog 168 #[.int .u64 0] w λe w'=>e=.returned (.int .i64 64)/\w=w':=by
 go_enter func168,ntmps168
 go_wp2
 go_ret
 exact⟨rfl,rfl⟩
theorem V8(x a:Nat)(hx:x<18446744073709551616)(hx0:x≠0)(hlow:x&&&(18446744073709551616-x)=a):
  IntKind.u64.wrap (bits BinOp.and IntKind.u64 (x:Int) (IntKind.u64.wrap (-(x:Int)))*285870213051353865)/288230376151711744=((a*285870213051353865%18446744073709551616/288230376151711744:Nat):Int):=by
 have e1:IntKind.u64.wrap (-(x:Int))=((18446744073709551616-x:Nat):Int):=by rw[IntKind.wrap_u64];omega
 rw[e1,bits_and_u64_nat x _ hx (by omega),hlow,IntKind.wrap_u64]
 omega
theorem aD4(x:Nat)(hx:x<18446744073709551616)(w:World)(hT:pX w):
  Calls prog 168 #[.int .u64 x] w λe w'=>e=.returned (.int .i64 (Lib.ctz 64 x))/\w=w':=by
 by_cases hx0:x=0
 ·subst hx0
  exact O9 w
 ·obtain⟨hlow,hk⟩:=Lib.lowest_bit 64 x hx0 hx
  obtain⟨hi,htab⟩:=Lib.deBruijn64_at _ hk
  have hcell:=hT _ hi
  rw[htab]at hcell
  exact j0 x _ _ w (by simp;omega) (V8 x _ hx hx0 hlow) hi hk hcell
end Go.Q9
end
section
namespace Go.Q9
open Go.Proofs.Tryz
open Go.RowKit
theorem sL(i:Nat)(h:i<64):2^i<18446744073709551616:=by
 have:2^i<2^64:=Nat.pow_lt_pow_right (by decide) h
 simpa using this
theorem Hz(i:Nat)(h:i<64):IntKind.u64.wrap (2^i)=((2^i:Nat):Int):=by
 have:=sL i h
 rw[show (2:Int)^i=((2^i:Nat):Int) by simp,Jc _ this]
theorem EW(b i:Nat)(hb:b<18446744073709551616):bits .and .u64 ((b:Int)/2^i) 1=(((b.testBit i).toNat:Nat):Int):=by
 have e:(b:Int)/2^i=((b/2^i:Nat):Int):=by simp
 have hl:b/2^i<18446744073709551616:=fU (Nat.div_le_self _ _) hb
 rw[e,show (1:Int)=((1:Nat):Int)from rfl,nG _ _ hl (by decide),Nat.and_one_is_mod,Bm.Oz]
theorem tE(b:Nat)(i:Int)(w:World)(hb:b<18446744073709551616):
  Calls prog 139 #[.int .u64 (b:Int),↑i] w λe w'=>e=.returned (.int .i64 (Bm.aO b i:Nat))/\w=w':=by
 by_cases h0:i<=0
 ·have hv:Bm.aO b i=0:=by unfold Bm.aO Bm.cut;rw[if_pos h0];exact Bm.Zn b
  have Hv:=Lib.hid hv
  clear hv
  go_enter func139,ntmps139
  go_wp2_with fail
  go_ret
  exact⟨by rw[Hv.out];rfl,rfl⟩
 ·by_cases h1:64<=i
  ·have hv:Bm.aO b i=Bm.pop 64 b:=by unfold Bm.aO Bm.cut;rw[if_neg h0,if_pos h1]
   have Hv:=Lib.hid hv
   clear hv
   go_enter func139,ntmps139
   go_wp2_with (go_at_call 108;refine(De _ hb _).mono ?_;rintro e w' ⟨rfl,rfl⟩)
   go_ret
   exact⟨by rw[Hv.out];rfl,rfl⟩
  ·obtain⟨n,rfl⟩:=Hp (show 0<=i by omega)
   have hn:n<64:=by omega
   have hp:=sL n hn
   have hpos:0<2^n:=Nat.two_pow_pos n
   have hv:Bm.aO b (n:Int)=Bm.pop 64 (b%2^n):=by
    unfold Bm.aO Bm.cut;rw[if_neg h0,if_neg h1,Bm.RE n b (by omega),dF]
   have Hv:=Lib.hid hv
   have hk:bits .and .u64 (b:Int) (IntKind.u64.wrap (IntKind.u64.wrap (2^n)-1))=((b%2^n:Nat):Int):=by
    rw[Hz n hn,show ((2^n:Nat):Int)-1=((2^n-1:Nat):Int) by omega,Jc _ (by omega),nG _ _ hb (by omega),Bm.wA]
   have hl:b%2^n<18446744073709551616:=fU (Nat.mod_le _ _) hb
   clear hv hpos hp
   go_enter func139,ntmps139
   go_wp2_with (go_at_call 108;refine(De _ hl _).mono ?_;rintro e w' ⟨rfl,rfl⟩)
   go_ret
   exact⟨by rw[Hv.out];rfl,rfl⟩
end Go.Q9
end
section
namespace Go.Q9
open Go.Proofs.Tryz
open Go.RowKit
theorem N8(x:Nat)(h0:x≠0)(hx:x<18446744073709551616):bits .and .u64 (x:Int) (IntKind.u64.wrap ((x:Int)-1))=((x&&&(x-1):Nat):Int):=by
 rw[show (x:Int)-1=((x-1:Nat):Int) by omega,Jc _ (by omega),nG _ _ hx (by omega)]
theorem aCc(b:Nat)(p:Int)(w:World)(hb:b<18446744073709551616)(h:p<0\/(Bm.pop 64 b:Int)<=p):
  Calls prog 140 #[.int .u64 (b:Int),↑p] w λe w'=>e=.returned (.int .i64 (-1))/\w=w':=by
 by_cases h0:p<0
 ·go_enter func140,ntmps140
  go_wp2_with fail
  go_ret
  exact⟨rfl,rfl⟩
 ·have h1:(Bm.pop 64 b:Int)<=p:=by omega
  clear h
  go_enter func140,ntmps140
  go_wp2_with (go_at_call 108;refine(De _ hb _).mono ?_;rintro e w' ⟨rfl,rfl⟩)
  go_ret
  exact⟨rfl,rfl⟩
theorem aB7(b p:Nat)(w:World)(hT:pX w)(hb:b<18446744073709551616)(h:p<Bm.pop 64 b):
  Calls prog 140 #[.int .u64 (b:Int),.int .i64 (p:Int)] w λe w'=>e=.returned (.int .i64 ((Bm.indices b).getD p 0:Nat))/\w=w':=by
 have hle:=Bm.lR 64 b
 have hd:decide (Bm.pop 64 b<=p)=false:=by simp;omega
 have HT:=Lib.hid hT
 have Hend:=Lib.hid (Bm.X3 b p (by simpa using hb) h)
 have hnz:∀k,k<p->Bm.drop k b≠0:=by
  intro k hk hz
  have:=Bm.Ey b (by simpa using hb) k
  rw[hz,Bm.vP]at this
  have h2:=congrArg List.length this
  rw[yM,Bm.sI]at h2
  simp at h2
  omega
 have Hnz:=Lib.hid hnz
 have hcount:=De b hb w
 generalize Bm.pop 64 b=c at hcount hle hd h
 have Hc:=Lib.hid hcount
 clear hT hcount hnz
 go_enter func140,ntmps140
 go_wp2_with (go_at_call 108;refine Hc.out.mono ?_;rintro e w' ⟨rfl,rfl⟩)
 go_loop [0,14] (λx i=>∃k:Nat,k<=p/\i=.int .i64 k/\x=.int .u64 (Bm.drop k b:Nat)) (λ_ i=>p-(intOf i).toNat)
 case atStart=>exact⟨0,Xe _,rfl,by rw[Bm.drop_zero]⟩
 case round=>
  obtain⟨k,hk,rfl,rfl⟩:=hrel
  have hl:Bm.drop k b<18446744073709551616:=by simpa using Bm.Ur b (by simpa using hb) k
  by_cases hlt:k<p
  ·have hkey:=N8 _ (Hnz.out k hlt) hl
   go_wp2
   go_round
   case rel=>exact⟨k+1,by omega,by go_num,by rw[Bm.s8]⟩
   case measure=>simp[intOf];omega
  ·obtain rfl:k=p:=by omega
   go_wp2_with (go_at_call 168;refine(aD4 _ hl _ HT.out).mono ?_;rintro e w' ⟨rfl,rfl⟩)
   go_ret
   exact⟨by rw[<- Hend.out];rfl,rfl⟩
theorem SK(b:Nat)(p:Int)(w:World)(hT:pX w)(hb:b<18446744073709551616):
  Calls prog 140 #[.int .u64 (b:Int),↑p] w λe w'=>e=.returned (.int .i64 (Bm.at_ b p))/\w=w':=by
 by_cases h:0<=p/\p<(Bm.indices b).length
 ·have e:Bm.at_ b p=((Bm.indices b).getD p.toNat 0:Nat):=by unfold Bm.at_;rw[if_pos h]
  rw[e]
  rw[Bm.sI]at h
  obtain⟨h0,h1⟩:=h
  obtain⟨n,rfl⟩:=Hp h0
  exact aB7 b n w hT hb (by omega)
 ·have e:Bm.at_ b p=-1:=by unfold Bm.at_;rw[if_neg h]
  rw[e]
  rw[Bm.sI]at h
  exact aCc b p w hb (by omega)
end Go.Q9
end
section
namespace Go.Q9
open Go.Proofs.Tryz
open Go.E
def YL:Nat:=0x43f70000fffffffffffffffffffffffffffffffffffffffffffffffffc
noncomputable def ZO (f:FuncId):Bool:=match prog.funcs[f]? with
 |some F=>!(F.name== "runtime.NumGoroutine")&&F.body.isSome
 |none=>false
theorem ZK:(List.range 231).all (λf=>ZO f||!(Nat.beq (Nat.land (Nat.shiftRight YL f) 1) 1))=true:=by kernel_rfl
theorem i5:Nat.shiftRight YL 231=0:=by decide+kernel
theorem eF{f:FuncId}(a:Nat.beq (Nat.land (Nat.shiftRight YL f) 1) 1=true:=by rfl):lA prog f:=by
 have hf:f<231:=by
  rcases PQ f 231 with h|h
  ·exact h
  ·have h1:Nat.shiftRight YL f=0:=by
    show YL>>>f=0
    obtain⟨k,rfl⟩:=Nat.exists_eq_add_of_le h
    rw[Nat.shiftRight_add,show YL>>>231=0 from i5,Nat.zero_shiftRight]
   rw[h1]at a;cases a
 have h2:=List.all_eq_true.1 ZK f (List.mem_range.2 hf)
 rw[a,Bool.not_true,Bool.or_false]at h2
 unfold ZO at h2
 cases h3:prog.funcs[f]? with
 |none=>rw[h3]at h2;cases h2
 |some F=>
  rw[h3]at h2
  obtain⟨h4,h5⟩:=Bool.and_eq_true_iff.1 h2
  intro xs w
  simp only[callFunc,Sem.run_bind,run_program,Result.andThen_ok]
  rw[h3]
  dsimp only
  rw[(lC _).mp h4,show F.body.isNone=false by cases hb:F.body<;>simp_all]
  rfl
end Go.Q9
end
section
namespace Go.Ct
structure bN where
 key:ByteArray
 value:Nat
 deriving DecidableEq
structure Node where
 kind:Int:=0
 gen:Int:=0
 main:Int:=0
 aD:Nat:=0
 aA:List Int:=[]
 hash:Nat:=0
 key:ByteArray:=.empty
 value:Nat:=0
 aF:List bN:=[]
 prev:Int:=0
 dC:Int:=0
 aK:Int:=0
 new:Int:=0
 status:Int:=0
 deriving DecidableEq
structure St where
 aG:List Node:=[]
 cells:List Int:=[]
 gen:Nat:=0
 acc:Nat:=0
def Node.bM(n:Node):Bool:=n.kind==3||n.kind==5||n.kind==6
def St.nodes(s:St):Nat:=2+s.aG.length
def St.size(s:St):Nat:=s.aG.length+s.cells.length+s.gen+s.acc
def St.K8(s:St):Prop:=s.size+100<=274877906944
def St.aV(s:St)(initial:Int):St×Int:=({s with cells:=s.cells++[initial]},s.cells.length+1)
def St.bS(s:St):St×Int:=({s with gen:=s.gen+1},s.gen+1)
def Node.bare(n:Node):Node:={n with main:=0,prev:=0,status:=0}
def St.alloc(s:St)(n:Node)(initial:Int):St×Int:=
 let c:Int:=s.cells.length+1
 let s1:St:=if n.kind==2||n.bM||n.kind==8 then(s.aV initial).1 else s
 let n1:Node:=if n.kind==2 then{n.bare with main:=c}else if n.bM then{n.bare with prev:=c}else if n.kind==8 then{n.bare with status:=c}else n.bare
 ({s1 with aG:=s1.aG++[n1]},s.aG.length+3)
def St.cA(s:St)(c:Int):Bool:=decide (1<=c)&&decide (c<=s.cells.length)
def St.load(s:St)(c:Int):St×Int:=({s with acc:=s.acc+1},if s.cA c then s.cells.getD (c.toNat-1) 0 else 0)
def St.xU(s:St)(c dC:Int):Bool:=s.cA c&&s.cells.getD (c.toNat-1) 0==dC
def St.eA(s:St)(c dC new:Int):St×Bool:=
 ({s with acc:=s.acc+1,cells:=if s.xU c dC then s.cells.set (c.toNat-1) new else s.cells},s.xU c dC)
def gY:Node:={kind:=1}
def St.node(s:St)(r:Int):Node:=
 if r<1\/s.nodes<r then{}else if r<=2 then gY else s.aG.getD (r.toNat-3) {}
structure bC where
 root:Int:=0
 readOnly:Bool:=false
 deriving DecidableEq
structure Result where
 err:Int:=0
 found:Bool:=false
 value:Nat:=0
 key:ByteArray:=.empty
 count:Int:=0
 ref:Int:=0
 aE:bC:={}
 deriving DecidableEq
end Go.Ct
end
