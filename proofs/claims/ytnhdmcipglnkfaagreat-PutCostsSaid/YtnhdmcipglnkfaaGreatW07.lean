/- Parts of a proof: Bm, Ct, Pf, Tp, It. -/
import Derived.Test.YtnhdmcipglnkfaaGreatW00
import Derived.Lib.TrailingZeros
import GoSem.Op.String
set_option linter.unusedVariables false
set_option linter.unusedSimpArgs false
set_option maxRecDepth 100000
set_option maxHeartbeats 4000000
section
namespace Go.Bm
def pop:Nat->Nat->Nat
 |0,_=>0
 |n+1,x=>x%2+pop n (x/2)
theorem lW:∀n x,pop n x<=n
 |0,_=>aW _
 |n+1,x=>by
  have:=lW n (x/2)
  simp only[pop]
  omega
theorem Gn:∀m n x,pop (m+n) x=pop m x+pop n (x/2^m)
 |0,n,x=>by simp[pop]
 |m+1,n,x=>by
  rw[Nat.add_right_comm]
  simp only[pop]
  rw[Gn m n (x/2),Nat.div_div_eq_div_mul,Nat.pow_succ,Nat.mul_comm 2 (2^m)]
  omega
theorem H0(n x:Nat):pop (n+1) x=pop n x+x/2^n%2:=by
 rw[Gn n 1 x]
 simp[pop]
theorem yL(k x lo m:Nat)(h:lo<2^k):x&&&(lo+2^k*m)=(x%2^k&&&lo)+2^k*(x/2^k&&&m):=by
 have h1:(x&&&(lo+2^k*m))%2^k=x%2^k&&&lo:=by
  rw[Nat.and_mod_two_pow,Nat.add_mul_mod_self_left,Nat.mod_eq_of_lt h]
 have h2:(x&&&(lo+2^k*m))/2^k=x/2^k&&&m:=by
  rw[Nat.and_div_two_pow,Nat.add_mul_div_left _ _ (Nat.two_pow_pos k),Nat.div_eq_of_lt h,wS]
 rw[<- h1,<- h2]
 exact(Nat.mod_add_div _ _).symm
theorem Ba(s x:Nat):x&&&(2^s-1)=x%2^s:=Nat.and_two_pow_sub_one_eq_mod x s
def Xw:Nat->Nat
 |0=>0
 |n+1=>1+2^2*Xw n
def Xh:Nat->Nat
 |0=>0
 |n+1=>3+2^4*Xh n
def JO:Nat->Nat
 |0=>0
 |n+1=>15+2^8*JO n
def Bq:Nat->Nat->Nat
 |0,_=>0
 |n+1,x=>(x%2+x/2%2)+4*Bq n (x/4)
def wU:Nat->Nat->Nat
 |0,_=>0
 |n+1,x=>pop 4 x+16*wU n (x/16)
def Si:Nat->Nat->Nat
 |0,_=>0
 |n+1,x=>pop 8 x+256*Si n (x/256)
theorem aBs:∀n x,(x/2&&&Xw n)+(x&&&Xw n)=Bq n x
 |0,x=>by simp[Xw,Bq]
 |n+1,x=>by
  have ih:=aBs n (x/4)
  simp only[Xw,Bq]
  rw[yL 2 (x/2) 1 _ (by decide),yL 2 x 1 _ (by decide)]
  have a1:x/2%2^2&&&1=x/2%2:=by
   rw[show (1:Nat)=2^1-1 from rfl,Ba];omega
  have a2:x%2^2&&&1=x%2:=by
   rw[show (1:Nat)=2^1-1 from rfl,Ba];omega
  have e1:x/2/2^2=x/4/2:=by omega
  have e2:x/2^2=x/4:=by omega
  rw[a1,a2,e1,e2]
  omega
theorem I1(n x:Nat):Bq (n+1+1) x=(x%2+x/2%2)+4*(x/4%2+x/8%2)+16*Bq n (x/16):=by
 simp only[Bq]
 have e:x/4/4=x/16:=by omega
 have e3:x/4/2=x/8:=by omega
 rw[e,e3]
 omega
theorem aO1(x:Nat):pop 4 x=x%2+x/2%2+(x/4%2+x/8%2):=by
 simp only[pop]
 have e2:x/2/2=x/4:=by omega
 have e3:x/4/2=x/8:=by omega
 rw[e2,e3]
 omega
theorem aC3:∀n x,(Bq (2*n) x/4&&&Xh n)+(Bq (2*n) x&&&Xh n)=wU n x
 |0,x=>by simp[Xh,wU]
 |n+1,x=>by
  have ih:=aC3 n (x/16)
  have e:2*(n+1)=2*n+1+1:=by omega
  rw[e,I1]
  simp only[Xh,wU]
  rw[aO1]
  generalize Bq (2*n) (x/16)=Y at *
  generalize hp0:x%2+x/2%2=p0
  generalize hp1:x/4%2+x/8%2=p1
  have b0:p0<=2:=by omega
  have b1:p1<=2:=by omega
  rw[yL 4 _ 3 _ (by decide),yL 4 _ 3 _ (by decide)]
  have a1:(p0+4*p1+16*Y)/4%2^4&&&3=p1:=by
   rw[show (3:Nat)=2^2-1 from rfl,Ba];omega
  have a2:(p0+4*p1+16*Y)%2^4&&&3=p0:=by
   rw[show (3:Nat)=2^2-1 from rfl,Ba];omega
  have e1:(p0+4*p1+16*Y)/4/2^4=Y/4:=by omega
  have e2:(p0+4*p1+16*Y)/2^4=Y:=by omega
  rw[a1,a2,e1,e2]
  omega
theorem F8(n x:Nat):wU (n+1+1) x=pop 4 x+16*pop 4 (x/16)+256*wU n (x/256):=by
 simp only[wU]
 have e:x/16/16=x/256:=by omega
 rw[e]
 omega
theorem aNl(x:Nat):pop 8 x=pop 4 x+pop 4 (x/16):=by
 have:=Gn 4 4 x
 simpa using this
theorem G8:∀n x,wU n x%16<=4
 |0,_=>by simp[wU]
 |n+1,x=>by
  have:=lW 4 x
  simp only[wU]
  omega
theorem aB9:∀n x,(wU (2*n) x/16+wU (2*n) x)&&&JO n=Si n x
 |0,x=>by simp[JO,Si]
 |n+1,x=>by
  have ih:=aB9 n (x/256)
  have e:2*(n+1)=2*n+1+1:=by omega
  rw[e,F8]
  simp only[JO,Si]
  rw[aNl]
  have hY:=G8 (2*n) (x/256)
  generalize wU (2*n) (x/256)=Y at *
  have b0:=lW 4 x
  have b1:=lW 4 (x/16)
  generalize pop 4 x=p0 at *
  generalize pop 4 (x/16)=p1 at *
  rw[yL 8 _ 15 _ (by decide)]
  have a1:((p0+16*p1+256*Y)/16+(p0+16*p1+256*Y))%2^8&&&15=p0+p1:=by
   rw[show (15:Nat)=2^4-1 from rfl,Ba];omega
  have e1:((p0+16*p1+256*Y)/16+(p0+16*p1+256*Y))/2^8=Y/16+Y:=by omega
  rw[a1,e1,ih]
theorem SU:∀n x,Bq n x<4^n
 |0,_=>by simp[Bq]
 |n+1,x=>by
  have:=SU n (x/4)
  simp only[Bq,Nat.pow_succ]
  omega
theorem RV:∀n x,wU n x*15+4<=4*16^n
 |0,_=>by simp[wU]
 |n+1,x=>by
  have:=RV n (x/16)
  have:=lW 4 x
  simp only[wU,Nat.pow_succ]
  omega
theorem NX(x:Nat):∃p0 p1 p2 p3 p4 p5 p6 p7,p0<=8/\p1<=8/\p2<=8/\p3<=8/\p4<=8/\p5<=8/\p6<=8/\p7<=8/\
  Si 8 x=p0+256*(p1+256*(p2+256*(p3+256*(p4+256*(p5+256*(p6+256*p7))))))/\pop 64 x=p0+p1+p2+p3+p4+p5+p6+p7:=by
 refine⟨pop 8 x,pop 8 (x/256),pop 8 (x/256/256),pop 8 (x/256/256/256),pop 8 (x/256/256/256/256),pop 8 (x/256/256/256/256/256),pop 8 (x/256/256/256/256/256/256),pop 8 (x/256/256/256/256/256/256/256),lW _ _,lW _ _,lW _ _,lW _ _,lW _ _,lW _ _,lW _ _,lW _ _,by simp[Si],?_⟩
 rw[show (64:Nat)=8+(8+(8+(8+(8+(8+(8+8))))))from rfl]
 simp only[Gn,show (2:Nat)^8=256 from rfl]
 omega
theorem aDq(a b c:Nat)(h:a<c):(a+c*b)/c=b:=by
 rw[Nat.add_mul_div_left _ _ (by omega),Nat.div_eq_of_lt h,wS]
theorem LI(a b c y:Nat)(h:a<c)(e:y=a+c*b):y+y/c=(a+b)+c*b:=by
 rw[e,aDq a b c h];omega
theorem m9(p0 p1 p2 p3 p4 p5 p6 p7:Nat):p0+(p1+256*(p2+256*(p3+256*(p4+256*(p5+256*(p6+256*p7))))))+256*(p1+256*(p2+256*(p3+256*(p4+256*(p5+256*(p6+256*p7))))))=
  (p0+p1+256*(p1+p2))+65536*((p2+p3)+256*(p3+p4)+65536*(p4+p5)+16777216*(p5+p6)+4294967296*(p6+p7)+1099511627776*p7):=by omega
theorem A3(p0 p1 p2 p3 p4 p5 p6 p7:Nat):(p0+p1+256*(p1+p2))+((p2+p3)+256*(p3+p4)+65536*(p4+p5)+16777216*(p5+p6)+4294967296*(p6+p7)+1099511627776*p7)+65536*((p2+p3)+256*(p3+p4)+65536*(p4+p5)+16777216*(p5+p6)+4294967296*(p6+p7)+1099511627776*p7)=
  ((p0+p1+p2+p3)+256*(p1+p2+p3+p4)+65536*(p2+p3+p4+p5)+16777216*(p3+p4+p5+p6))+4294967296*((p4+p5+p6+p7)+256*(p5+p6+p7)+65536*(p6+p7)+16777216*p7):=by omega
theorem B0(p0 p1 p2 p3 p4 p5 p6 p7 X:Nat):((p0+p1+p2+p3)+256*(p1+p2+p3+p4)+65536*(p2+p3+p4+p5)+16777216*(p3+p4+p5+p6))+((p4+p5+p6+p7)+256*(p5+p6+p7)+65536*(p6+p7)+16777216*p7)+4294967296*X=
  (p0+p1+p2+p3+p4+p5+p6+p7)+128*(2*((p1+p2+p3+p4)+(p5+p6+p7)+256*((p2+p3+p4+p5)+(p6+p7))+65536*(p3+p4+p5+p6+p7)+16777216*X)):=by omega
theorem aJ7(x:Nat):∃y1 y2 y3:Nat,y1=Si 8 x+Si 8 x/256/\y2=y1+y1/65536/\y3=y2+y2/4294967296/\
  y1<18446744073709551616/\y2<18446744073709551616/\y3<18446744073709551616/\y3%128=pop 64 x:=by
 obtain⟨p0,p1,p2,p3,p4,p5,p6,p7,b0,b1,b2,b3,b4,b5,b6,b7,e,ep⟩:=NX x
 have g1:=LI p0 _ 256 _ (by omega) e
 rw[m9]at g1
 have g2:=LI _ _ 65536 _ (by omega) g1
 rw[A3]at g2
 have g3:=LI _ _ 4294967296 _ (by omega) g2
 refine⟨_,_,_,rfl,rfl,rfl,?_,?_,?_,?_⟩
 ·rw[g1];clear g1 g2 g3 e ep;omega
 ·rw[g2];clear g1 g2 g3 e ep;omega
 ·rw[g3];clear g1 g2 g3 e ep;omega
 ·rw[g3,B0,ep]
  clear g1 g2 g3 e ep
  rw[Nat.add_mul_mod_self_left]
  exact Nat.mod_eq_of_lt (by omega)
theorem aIa:Xw 32=6148914691236517205/\Xh 16=3689348814741910323/\JO 8=1085102592571150095:=by decide
theorem EI(b i:Nat):b.testBit i=decide (b/2^i%2=1):=by
 rw[Nat.testBit_eq_decide_div_mod_eq]
theorem Xt(b i:Nat):b/2^i%2=(b.testBit i).toNat:=by
 rw[EI]
 by_cases h:b/2^i%2=1
 ·simp[h]
 ·simp[h];omega
def has(b:Nat)(i:Int):Bool:=decide (0<=i)&&(decide (i<64)&&b.testBit i.toNat)
def cut(i:Int):Nat:=if i<=0 then 0 else if 64<=i then 64 else i.toNat
def aN(b:Nat)(i:Int):Nat:=pop (cut i) b
def cR(b:Nat)(i:Int):Nat:=if 0<=i/\i<64 then b|||2^i.toNat else b
def lJ(b:Nat)(i:Int):Nat:=if has b i=true then b-2^i.toNat else b
def Yj(n b:Nat):List Nat:=(List.range n).filter λi=>b.testBit i
def indices(b:Nat):List Nat:=Yj 64 b
def at_(b:Nat)(p:Int):Int:=if 0<=p/\p<(indices b).length then((indices b).getD p.toNat 0:Nat)else -1
theorem cQ(n b:Nat):pop (n+1) b=pop n b+(b.testBit n).toNat:=by
 rw[H0,Xt]
theorem Wz:∀n b c,(∀i,i<n->b.testBit i=c.testBit i)->pop n b=pop n c
 |0,_,_,_=>rfl
 |n+1,b,c,h=>by
  rw[cQ,cQ,Wz n b c (λi hi=>h i (by omega)),h n (by omega)]
theorem aAc(i b:Nat)(h:i<=64):pop 64 (b%2^i)=pop i b:=by
 obtain⟨d,hd⟩:∃d,64=i+d:=⟨64-i,by omega⟩
 rw[hd,Gn]
 have e:b%2^i/2^i=0:=Nat.div_eq_of_lt (Nat.mod_lt _ (Nat.two_pow_pos i))
 rw[e]
 have z:∀n,pop n 0=0:=by
  intro n;induction n with
  |zero=>rfl
  |succ n ih=>simp[pop,ih]
 rw[z,P1]
 apply Wz
 intro j hj
 rw[Nat.testBit_mod_two_pow]
 simp[hj]
theorem Ly(b i j:Nat)(h:b.testBit i=true):(b-2^i).testBit j=(b.testBit j&&!decide (i=j)):=by
 have h1:b/2^i%2=1:=by rw[Nat.testBit_eq_decide_div_mod_eq]at h;simpa using h
 have hr:b%2^i<2^i:=Nat.mod_lt _ (Nat.two_pow_pos i)
 obtain⟨q,hq⟩:∃q,b/2^i=2*q+1:=⟨b/2^i/2,by omega⟩
 have hb:b=2^i*(2*q+1)+b%2^i:=by rw[<- hq];exact(Nat.div_add_mod b (2^i)).symm
 generalize b%2^i=r at *
 have e:b-2^i=2^i*(2*q)+r:=by rw[hb,Nat.mul_add];omega
 rw[e]
 conv=>rhs;rw[hb]
 rw[Nat.testBit_two_pow_mul_add _ hr,Nat.testBit_two_pow_mul_add _ hr]
 by_cases hj:j<i
 ·have:¬i=j:=by omega
  simp[hj,this]
 ·by_cases hij:i=j
  ·subst hij;simp[Nat.testBit_zero]
  ·obtain⟨d,rfl⟩:∃d,j=i+(d+1):=⟨j-i-1,by omega⟩
   have e3:i+(d+1)-i=d+1:=by omega
   rw[if_neg hj,if_neg hj,e3,Nat.testBit_succ,Nat.testBit_succ]
   have d1:(2*q+1)/2=q:=by omega
   have d2:2*q/2=q:=by omega
   rw[d1,d2]
   simp
def andNot(a m:Nat):Nat:=a^^^(a&&&m)
theorem zR(a m j:Nat):(andNot a m).testBit j=(a.testBit j&&!m.testBit j):=by
 unfold andNot
 rw[Nat.testBit_xor,Nat.testBit_and]
 cases a.testBit j<;>cases m.testBit j<;>rfl
theorem LP(b i:Nat):andNot b (2^i)=if b.testBit i then b-2^i else b:=by
 apply Nat.eq_of_testBit_eq
 intro j
 rw[zR,Nat.testBit_two_pow]
 by_cases h:b.testBit i=true
 ·rw[if_pos h,Ly b i j h]
 ·rw[if_neg h]
  by_cases hij:i=j
  ·subst hij;simp at h;simp[h]
  ·simp[hij]
def drop:Nat->Nat->Nat
 |0,x=>x
 |k+1,x=>drop k x&&&(drop k x-1)
theorem GI(b:Nat):pop 0 b=0:=rfl
theorem kH(b:Nat)(i:Int)(h:b<18446744073709551616):cR b i<18446744073709551616:=by
 unfold cR
 split
 ·rename_i hi
  have:2^i.toNat<2^64:=Nat.pow_lt_pow_right (by decide) (by omega)
  have:=Nat.or_lt_two_pow (n:=64) (x:=b) (y:=2^i.toNat) (by simpa using h) this
  simpa using this
 ·exact h
theorem Lj(b:Nat)(i:Int)(h:b<18446744073709551616):lJ b i<18446744073709551616:=by
 unfold lJ;split
 ·exact Sc (Nat.sub_le _ _) h
 ·exact h
theorem iN(b:Nat)(x:Nat)(hx:x<64)(j:Nat):(cR b (x:Int)).testBit j=(b.testBit j||decide (x=j)):=by
 unfold cR
 rw[if_pos (by omega),Nat.testBit_or,Qa,Nat.testBit_two_pow]
theorem nB(b:Nat)(x:Nat)(hx:x<64)(j:Nat):(lJ b (x:Int)).testBit j=(b.testBit j&&!decide (x=j)):=by
 have e:lJ b (x:Int)=andNot b (2^x):=by
  have h1:(x:Int)<64:=by omega
  rw[LP];unfold lJ has;simp[h1]
 rw[e,zR,Nat.testBit_two_pow]
theorem nY(b x:Nat)(hx:x<64):has b (x:Int)=b.testBit x:=by
 have h1:(x:Int)<64:=by omega
 unfold has;simp[h1]
theorem WX(b x y:Nat)(hx:x<64)(hy:y<64):has (cR b x) y=(has b y||decide (x=y)):=by
 rw[nY _ _ hy,nY _ _ hy,iN b x hx]
theorem BM(b x:Nat)(hx:x<64):cR (lJ b x) x=cR b x:=by
 apply Nat.eq_of_testBit_eq
 intro j
 rw[iN _ x hx,nB _ x hx,iN _ x hx]
 by_cases h:x=j<;>simp[h]
theorem vV(b x:Nat)(hx:x<64):∀y,pop y (cR b x)=pop y b+if x<y/\b.testBit x=false then 1 else 0
 |0=>by rw[pop,pop];simp
 |y+1=>by
  rw[cQ,cQ,vV b x hx y,iN b x hx]
  by_cases hb:b.testBit x=true
  ·have:(b.testBit y||decide (x=y))=b.testBit y:=by
    by_cases h:x=y
    ·subst h;simp[hb]
    ·simp[h]
   simp[hb,this]
  ·have CU:b.testBit x=false:=by simpa using hb
   by_cases h:x=y
   ·subst h;simp[CU]
   ·simp only[CU,h,decide_false,Eb,and_true]
    by_cases h2:x<y
    ·rw[if_pos h2,if_pos (by omega)];omega
    ·rw[if_neg h2,if_neg (by omega)];omega
theorem CJ(b:Nat):aN b 64=pop 64 b:=rfl
attribute [irreducible] pop Yj drop
end Go.Bm
end
section
namespace Go.Ct
structure bA where
 key:ByteArray
 value:Nat
 deriving DecidableEq
structure Node where
 kind:Int:=0
 gen:Int:=0
 main:Int:=0
 aC:Nat:=0
 aA:List Int:=[]
 hash:Nat:=0
 key:ByteArray:=.empty
 value:Nat:=0
 aH:List bA:=[]
 prev:Int:=0
 dO:Int:=0
 aS:Int:=0
 new:Int:=0
 status:Int:=0
 deriving DecidableEq
structure St where
 aG:List Node:=[]
 cells:List Int:=[]
 gen:Nat:=0
 acc:Nat:=0
def Node.bG(n:Node):Bool:=n.kind==3||n.kind==5||n.kind==6
def St.nodes(s:St):Nat:=2+s.aG.length
def St.size(s:St):Nat:=s.aG.length+s.cells.length+s.gen+s.acc
def St.aX6(s:St):Prop:=s.size+100<=274877906944
def St.aT(s:St)(initial:Int):St×Int:=({s with cells:=s.cells++[initial]},s.cells.length+1)
def St.bL(s:St):St×Int:=({s with gen:=s.gen+1},s.gen+1)
def Node.bare(n:Node):Node:={n with main:=0,prev:=0,status:=0}
def St.alloc(s:St)(n:Node)(initial:Int):St×Int:=
 let c:Int:=s.cells.length+1
 let s1:St:=if n.kind==2||n.bG||n.kind==8 then(s.aT initial).1 else s
 let n1:Node:=if n.kind==2 then{n.bare with main:=c}else if n.bG then{n.bare with prev:=c}else if n.kind==8 then{n.bare with status:=c}else n.bare
 ({s1 with aG:=s1.aG++[n1]},s.aG.length+3)
def St.bD(s:St)(c:Int):Bool:=decide (1<=c)&&decide (c<=s.cells.length)
def St.load(s:St)(c:Int):St×Int:=({s with acc:=s.acc+1},if s.bD c then s.cells.getD (c.toNat-1) 0 else 0)
def St.pV(s:St)(c dO:Int):Bool:=s.bD c&&s.cells.getD (c.toNat-1) 0==dO
def St.cH(s:St)(c dO new:Int):St×Bool:=
 ({s with acc:=s.acc+1,cells:=if s.pV c dO then s.cells.set (c.toNat-1) new else s.cells},s.pV c dO)
def iH:Node:={kind:=1}
def St.node(s:St)(r:Int):Node:=
 if r<1\/s.nodes<r then{}else if r<=2 then iH else s.aG.getD (r.toNat-3) {}
structure aX where
 root:Int:=0
 readOnly:Bool:=false
 deriving DecidableEq
structure Result where
 err:Int:=0
 found:Bool:=false
 value:Nat:=0
 key:ByteArray:=.empty
 count:Int:=0
 ref:Int:=0
 aF:aX:={}
 deriving DecidableEq
end Go.Ct
end
section
namespace Go.Ct
def uL(h:Nat)(b:UInt8):Nat:=((h^^^b.toNat)*1099511628211)%18446744073709551616
def Uu(key:List UInt8):Nat:=key.foldl uL 14695981039346656037
def aE(key:ByteArray)(aI:Nat):Nat:=Uu key.data.toList&&&aI
def bR(key:ByteArray):Bool:=decide (key.size<=64)
def slice(h:Nat)(level:Int):Int:=if level<0\/10<level then 0 else((h/64^level.toNat%64:Nat):Int)
def lV(h k:Nat):Nat->Nat->Nat
 |0,l=>l
 |n+1,l=>if slice h l=slice k l then lV h k n (l+1)else l
def aJ(h k:Nat):Nat:=lV h k 11 0
def dW(a b:ByteArray):Bool:=Op.bytesLess a.toList b.toList
def bO(a b:ByteArray):Bool:=a.toList==b.toList
def aU:List bA->Bool
 |a::b::l=>dW a.key b.key&&aU (b::l)
 |_=>true
def bB:List bA->ByteArray->Nat
 |[],_=>0
 |q::l,key=>if dW q.key key then bB l key+1 else 0
def kA(l:List bA)(i:Nat):bA:=l.getD i ⟨.empty,0⟩
def lG(l:List bA)(key:ByteArray):Bool:=decide (bB l key<l.length)&&bO (kA l (bB l key)).key key
def bN(l:List bA)(key:ByteArray):Nat×Bool:=if aU l&&lG l key then((kA l (bB l key)).value,true)else(0,false)
def oQ(l:List bA)(key:ByteArray)(v:Nat):List bA:=
 if aU l=false then[]
 else if lG l key then l.take (bB l key)++⟨(kA l (bB l key)).key,v⟩::l.drop (bB l key+1)
 else l.take (bB l key)++⟨key,v⟩::l.drop (bB l key)
def jR(l:List bA)(key:ByteArray):List bA:=
 if aU l=false then[]else if lG l key then l.take (bB l key)++l.drop (bB l key+1)else l
def gE(a b:bA):List bA:=if dW b.key a.key then[b,a]else[a,b]
def PP(a b:bA):Bool:=bO a.key b.key&&a.value==b.value
def pH:List bA->List bA->Bool
 |[],[]=>true
 |a::l,b::k=>PP a b&&pH l k
 |_,_=>false
def Node.only(n:Node):Node:=
 if n.kind=1 then{kind:=n.kind}
 else if n.kind=2 then{kind:=n.kind,gen:=n.gen,main:=n.main}
 else if n.kind=3 then{kind:=n.kind,aC:=n.aC,aA:=n.aA,prev:=n.prev}
 else if n.kind=4 then{kind:=n.kind,hash:=n.hash,key:=n.key,value:=n.value}
 else if n.kind=5 then{kind:=n.kind,hash:=n.hash,key:=n.key,value:=n.value,prev:=n.prev}
 else if n.kind=6 then{kind:=n.kind,hash:=n.hash,aH:=n.aH,prev:=n.prev}
 else if n.kind=7 then{kind:=n.kind,dO:=n.dO}
 else if n.kind=8 then{kind:=n.kind,dO:=n.dO,aS:=n.aS,new:=n.new,status:=n.status}
 else{kind:=n.kind}
def gW(a b:Node):Bool:=
 a.kind==b.kind&&a.gen==b.gen&&a.main==b.main&&a.aC==b.aC&&a.hash==b.hash&&bO a.key b.key&&a.value==b.value&&
 (a.aA==b.aA&&(pH a.aH b.aH&&(a.prev==b.prev&&(a.dO==b.dO&&(a.aS==b.aS&&(a.new==b.new&&a.status==b.status))))))
def nA(l:List bA):Bool:=l.all λp=>decide (p.key.size<=64)
def Node.valid(n:Node):Bool:=
 if n.kind<1\/8<n.kind\/gW n n.only=false\/n.main<0\/n.prev<0\/n.status<0 then false
 else if n.kind=2 then decide (1<=n.gen)
 else if n.kind=3 then(n.aA.all λb=>decide (1<=b))&&n.aA.length==Bm.pop 64 n.aC
 else if n.kind=4\/n.kind=5 then decide (n.key.size<=64)
 else if n.kind=6 then decide (2<=n.aH.length)&&(aU n.aH&&nA n.aH)
 else if n.kind=7 then decide (1<=n.dO)
 else if n.kind=8 then decide (1<=n.dO)&&(decide (1<=n.aS)&&decide (1<=n.new))
 else true
def Node.oT(c:Node):Bool:=c.kind==3&&c.valid
def aB(c:Node)(i:Int):Int×Bool:=if c.oT=false\/Bm.has c.aC i=false then(0,false)else(c.aA.getD (Bm.aN c.aC i) 0,true)
def aO(c:Node)(i r:Int):Node×Bool:=
 if c.oT=false\/i<0\/63<i\/r<1\/Bm.has c.aC i=true then({},false)
 else({kind:=3,aC:=Bm.cR c.aC i,aA:=c.aA.take (Bm.aN c.aC i)++r::c.aA.drop (Bm.aN c.aC i)},true)
def aM(c:Node)(i r:Int):Node×Bool:=
 if c.oT=false\/i<0\/63<i\/r<1\/Bm.has c.aC i=false then({},false)
 else({kind:=3,aC:=c.aC,aA:=c.aA.take (Bm.aN c.aC i)++r::c.aA.drop (Bm.aN c.aC i+1)},true)
def cG(c:Node)(i:Int):Node×Bool:=
 if c.oT=false\/i<0\/63<i\/Bm.has c.aC i=false then({},false)
 else({kind:=3,aC:=Bm.lJ c.aC i,aA:=c.aA.take (Bm.aN c.aC i)++c.aA.drop (Bm.aN c.aC i+1)},true)
def iP(c:Node):Int×Bool:=if c.oT=false\/c.aA.length≠1 then(0,false)else(c.aA.getD 0 0,true)
def LH(n:Node):Node:={kind:=5,hash:=n.hash,key:=n.key,value:=n.value}
def Oj(n:Node):Node:={kind:=4,hash:=n.hash,key:=n.key,value:=n.value}
def bI(c:Node)(level:Int)(sole:Node):Node:=if 0<level/\(iP c).2=true/\sole.kind=4 then LH sole else c
def aP(t:Node):Node×Bool:=if t.kind=5 then(Oj t,true)else({},false)
def Node.Tq(l:Node):Bool:=l.kind==6&&l.valid
def grown(l:Node)(key:ByteArray)(v:Nat):Node×Bool:=if l.Tq=false\/64<key.size then({},false)else({kind:=6,hash:=l.hash,aH:=oQ l.aH key v},true)
def jH(l:Node)(key:ByteArray):Node×Bool:=
 if l.Tq=false\/(bN l.aH key).2=false then({},false)
 else match jR l.aH key with
  |[p]=>({kind:=5,hash:=l.hash,key:=p.key,value:=p.value},true)
  |rest=>({kind:=6,hash:=l.hash,aH:=rest},true)
def Node.fits(L:Nat)(n:Node):Prop:=
 n.aA.length<=1000000/\n.aH.length<=L+2/\n.aC<18446744073709551616/\n.hash<18446744073709551616/\n.key.size<=9223372036854775807/\(∀p∈n.aH,p.key.size<=9223372036854775807)/\(n.kind=3\/n.kind=6->n.valid=true)
theorem NO(L:Nat)(k g o e w:Int)(h:k≠3/\k≠6:=by decide):Node.fits L {kind:=k,gen:=g,dO:=o,aS:=e,new:=w}:=
 ⟨bZ _,bZ _,by show (0:Nat)<_;decide,by show (0:Nat)<_;decide,by show (0:Nat)<=_;decide,(λp hp=>by cases hp),λhk=>absurd hk (by rintro(h1|h1);exact h.1 h1;exact h.2 h1)⟩
theorem PH(L:Nat):Node.fits L {kind:=3}:=
 ⟨bZ _,bZ _,by show (0:Nat)<_;decide,by show (0:Nat)<_;decide,by show (0:Nat)<=_;decide,(λp hp=>by cases hp),λ_=>by decide+kernel⟩
theorem Node.fits.mono{L M:Nat}{n:Node}(h:n.fits L)(hLM:L<=M):n.fits M:=⟨h.1,kR h.2.1 (by omega),h.2.2⟩
theorem Dq(a:ByteArray):bO a a=true:=by unfold bO;simp
theorem wW:∀l:List bA,pH l l=true
 |[]=>rfl
 |a::l=>by rw[pH,wW l];unfold PP;rw[Dq];simp
theorem SP(b:Nat)(l:List Int)(c:Int)(hc:0<=c):Node.valid {kind:=3,aC:=b,aA:=l,prev:=c}=((l.all λb=>decide (1<=b))&&l.length==Bm.pop 64 b):=by
 have h1:gW {kind:=3,aC:=b,aA:=l,prev:=c} (Node.only {kind:=3,aC:=b,aA:=l,prev:=c})=true:=by
  simp[Node.only,gW,Dq,pH]
 unfold Node.valid
 rw[h1]
 simp
 omega
theorem U9(h:Nat)(l:List bA)(c:Int)(hc:0<=c):Node.valid {kind:=6,hash:=h,aH:=l,prev:=c}=(decide (2<=l.length)&&(aU l&&nA l)):=by
 have h1:gW {kind:=6,hash:=h,aH:=l,prev:=c} (Node.only {kind:=6,hash:=h,aH:=l,prev:=c})=true:=by
  simp[Node.only,gW,Dq,wW]
 unfold Node.valid
 rw[h1]
 simp
 omega
theorem Dp(n:Node)(c:Int)(hc:0<=c)(hk:n.kind=3\/n.kind=6)(h:n.valid=true):({n.bare with prev:=c}:Node).valid=true:=by
 have hp:=wW n.aH
 rcases hk with hk|hk<;>
 ·unfold Node.valid at h ⊢
  simp only[Node.bare,Node.only,gW,hk]at h ⊢
  simp at h ⊢
  simp_all
  try omega
theorem aDj{n:Node}(hk:n.kind=3)(h:n.valid=true):gW n {kind:=3,aC:=n.aC,aA:=n.aA,prev:=n.prev}=true/\n.main=0/\0<=n.prev/\n.status=0/\(n.aA.all λb=>decide (1<=b))=true/\n.aA.length=Bm.pop 64 n.aC:=by
 unfold Node.valid at h
 by_cases hc:n.kind<1\/8<n.kind\/gW n n.only=false\/n.main<0\/n.prev<0\/n.status<0
 ·rw[if_pos hc]at h;cases h
 ·rw[if_neg hc,if_neg (by omega),if_pos hk,pM]at h
  have ho:n.only={kind:=3,aC:=n.aC,aA:=n.aA,prev:=n.prev}:=by unfold Node.only;simp[hk]
  have hq:gW n n.only=true:=by
   cases hq:gW n n.only with
   |true=>rfl
   |false=>exact absurd (.inr (.inr (.inl hq))) hc
  rw[ho]at hq
  have N4:=hq
  unfold gW at N4
  simp only[pM,Ae]at N4
  exact⟨hq,N4.1.1.1.1.1.2,by omega,N4.2.2.2.2.2.2.2,h.1,by simpa using h.2⟩
theorem i3{n:Node}(hk:n.kind=6)(h:n.valid=true):gW n {kind:=6,hash:=n.hash,aH:=n.aH,prev:=n.prev}=true/\n.main=0/\0<=n.prev/\n.status=0/\2<=n.aH.length/\aU n.aH=true/\nA n.aH=true:=by
 unfold Node.valid at h
 by_cases hc:n.kind<1\/8<n.kind\/gW n n.only=false\/n.main<0\/n.prev<0\/n.status<0
 ·rw[if_pos hc]at h;cases h
 ·rw[if_neg hc,if_neg (by omega),if_neg (by omega),if_neg (by omega),if_pos hk,pM,pM]at h
  have ho:n.only={kind:=6,hash:=n.hash,aH:=n.aH,prev:=n.prev}:=by unfold Node.only;simp[hk]
  have hq:gW n n.only=true:=by
   cases hq:gW n n.only with
   |true=>rfl
   |false=>exact absurd (.inr (.inr (.inl hq))) hc
  rw[ho]at hq
  have N4:=hq
  unfold gW at N4
  simp only[pM,Ae]at N4
  exact⟨hq,N4.1.1.1.1.1.2,by omega,N4.2.2.2.2.2.2.2,by simpa using h.1,h.2.1,h.2.2⟩
end Go.Ct
end
section
namespace Go.Ct
structure Acc where
 kind:Int:=0
 cell:Int:=0
 dO:Int:=0
 new:Int:=0
 deriving DecidableEq
structure Ent where
 aNs:Int:=0
 acc:Acc:={}
 aNt:Int:=0
 aLz:Bool:=false
 deriving DecidableEq
end Go.Ct
namespace Go.Ct
end Go.Ct
namespace Go.Ct
end Go.Ct
end
section
namespace Go.Ct
inductive I(α:Type) where
 |ret (a:α)
 |load (c:Int) (k:Int->I α)
 |cH (c dO new:Int) (k:Bool->I α)
 |alloc (n:Node) (i:Int) (k:Int->I α)
 |cell (i:Int) (k:Int->I α)
 |gen (k:Int->I α)
 |node (r:Int) (k:Node->I α)
def I.bind{α β:Type}:I α->(α->I β)->I β
 |.ret a,f=>f a
 |.load c k,f=>.load c λv=>(k v).bind f
 |.cH c o n k,f=>.cH c o n λv=>(k v).bind f
 |.alloc n i k,f=>.alloc n i λv=>(k v).bind f
 |.cell i k,f=>.cell i λv=>(k v).bind f
 |.gen k,f=>.gen λv=>(k v).bind f
 |.node r k,f=>.node r λv=>(k v).bind f
structure Frame where
 c:Int:=0
 k:Int:=0
 deriving DecidableEq
structure aIx where
 started:Bool:=false
 stack:List Frame:=[]
 wait:List bA:=[]
 deriving DecidableEq
structure Call where
 kind:Int:=0
 aF:aX:={}
 a:Int:=0
 b:Int:=0
 n:Int:=0
 index:Int:=0
 hash:Nat:=0
 aI:Nat:=0
 key:ByteArray:=.empty
 value:Nat:=0
 expect:Nat:=0
 bF:Int:=0
 only:Bool:=false
 walk:aIx:={}
 answer:Result:={}
 deriving DecidableEq
structure Ex where
 call:Call:={}
 eV:List Int:=[]
 made:List Int:=[]
 cells:List Int:=[]
 dU:List Int:=[]
 a:Nat:=0
 m:Nat:=0
 c:Nat:=0
 g:Nat:=0
 free:Nat:=0
 aD:Bool:=false
 next:Acc:={}
 done:Bool:=false
 result:Result:={}
 walk:aIx:={}
structure X where
 e:Ex
 s:St
def X.node(x:X)(r:Int):Node:=x.s.node r
def aDm(b:Bool):Int:=if b then 1 else 0
def vR(want:Acc)(x:X):X:={x with e:={x.e with aD:=true,next:=want}}
def qO(x:X):X:={x with e:={x.e with a:=x.e.a+1}}
def mB(v:Int)(s:St)(x:X):X:={e:={x.e with free:=x.e.free-1,eV:=x.e.eV++[v],a:=x.e.a+1},s:=s}
def eK(c:Int)(x:X):X×Option Int:=
 if x.e.aD=true then(x,none)
 else if x.e.a<x.e.eV.length then(qO x,some (x.e.eV.getD x.e.a 0))
 else if x.e.free=0 then(vR ⟨1,c,0,0⟩ x,none)
 else(mB (x.s.load c).2 (x.s.load c).1 x,some (x.s.load c).2)
def jT(c dO new:Int)(x:X):X×Option Bool:=
 if x.e.aD=true then(x,none)
 else if x.e.a<x.e.eV.length then(qO x,some (x.e.eV.getD x.e.a 0==1))
 else if x.e.free=0 then(vR ⟨2,c,dO,new⟩ x,none)
 else(mB (aDm (x.s.cH c dO new).2) (x.s.cH c dO new).1 x,some (x.s.cH c dO new).2)
def dE(n:Node)(i:Int)(x:X):X×Option Int:=
 if x.e.aD=true then(x,none)
 else if x.e.m=x.e.made.length then({e:={x.e with made:=x.e.made++[(x.s.alloc n i).2],m:=x.e.m+1},s:=(x.s.alloc n i).1},some (x.s.alloc n i).2)
 else({x with e:={x.e with m:=x.e.m+1}},some (x.e.made.getD x.e.m 0))
def fU(i:Int)(x:X):X×Option Int:=
 if x.e.aD=true then(x,none)
 else if x.e.c=x.e.cells.length then({e:={x.e with cells:=x.e.cells++[(x.s.aT i).2],c:=x.e.c+1},s:=(x.s.aT i).1},some (x.s.aT i).2)
 else({x with e:={x.e with c:=x.e.c+1}},some (x.e.cells.getD x.e.c 0))
def kN(x:X):X×Option Int:=
 if x.e.aD=true then(x,none)
 else if x.e.g=x.e.dU.length then({e:={x.e with dU:=x.e.dU++[x.s.bL.2],g:=x.e.g+1},s:=x.s.bL.1},some x.s.bL.2)
 else({x with e:={x.e with g:=x.e.g+1}},some (x.e.dU.getD x.e.g 0))
def kS{α β:Type}(r:X×Option α)(f:α->X->X×Option β):X×Option β:=match r with
 |(y,some v)=>f v y
 |(y,none)=>(y,none)
def bC{α:Type}:I α->X->X×Option α
 |.ret a,x=>if x.e.aD=true then(x,none)else(x,some a)
 |.load c k,x=>kS (eK c x) λv y=>bC (k v) y
 |.cH c o n k,x=>kS (jT c o n x) λv y=>bC (k v) y
 |.alloc n i k,x=>kS (dE n i x) λv y=>bC (k v) y
 |.cell i k,x=>kS (fU i x) λv y=>bC (k v) y
 |.gen k,x=>kS (kN x) λv y=>bC (k v) y
 |.node r k,x=>bC (k (x.node r)) x
theorem IC{c:Int}{x y:X}{v:Int}(h:eK c x=(y,some v)):y.e.aD=false:=by
 unfold eK at h
 split at h
 ·cases h
 ·rename_i h0
  have h0:x.e.aD=false:=by simpa using h0
  split at h
  ·cases h;exact h0
  ·split at h
   ·cases h
   ·cases h;exact h0
theorem Z1{c o n:Int}{x y:X}{v:Bool}(h:jT c o n x=(y,some v)):y.e.aD=false:=by
 unfold jT at h
 split at h
 ·cases h
 ·rename_i h0
  have h0:x.e.aD=false:=by simpa using h0
  split at h
  ·cases h;exact h0
  ·split at h
   ·cases h
   ·cases h;exact h0
theorem WV{n:Node}{i:Int}{x y:X}{v:Int}(h:dE n i x=(y,some v)):y.e.aD=false:=by
 unfold dE at h
 split at h
 ·cases h
 ·rename_i h0
  have h0:x.e.aD=false:=by simpa using h0
  split at h<;>cases h<;>exact h0
theorem B8{i:Int}{x y:X}{v:Int}(h:fU i x=(y,some v)):y.e.aD=false:=by
 unfold fU at h
 split at h
 ·cases h
 ·rename_i h0
  have h0:x.e.aD=false:=by simpa using h0
  split at h<;>cases h<;>exact h0
theorem Y3{x y:X}{v:Int}(h:kN x=(y,some v)):y.e.aD=false:=by
 unfold kN at h
 split at h
 ·cases h
 ·rename_i h0
  have h0:x.e.aD=false:=by simpa using h0
  split at h<;>cases h<;>exact h0
theorem DV{c:Int}{x y:X}(h:eK c x=(y,none)):y.e.aD=true:=by
 unfold eK at h
 split at h
 ·rename_i h0;cases h;exact h0
 ·split at h
  ·cases h
  ·split at h
   ·cases h;rfl
   ·cases h
theorem Z6{c o n:Int}{x y:X}(h:jT c o n x=(y,none)):y.e.aD=true:=by
 unfold jT at h
 split at h
 ·rename_i h0;cases h;exact h0
 ·split at h
  ·cases h
  ·split at h
   ·cases h;rfl
   ·cases h
theorem XT{n:Node}{i:Int}{x y:X}(h:dE n i x=(y,none)):y=x/\x.e.aD=true:=by
 unfold dE at h
 split at h
 ·rename_i h0;cases h;exact⟨rfl,h0⟩
 ·split at h<;>cases h
theorem J7{i:Int}{x y:X}(h:fU i x=(y,none)):y=x/\x.e.aD=true:=by
 unfold fU at h
 split at h
 ·rename_i h0;cases h;exact⟨rfl,h0⟩
 ·split at h<;>cases h
theorem U3{x y:X}(h:kN x=(y,none)):y=x/\x.e.aD=true:=by
 unfold kN at h
 split at h
 ·rename_i h0;cases h;exact⟨rfl,h0⟩
 ·split at h<;>cases h
theorem cU{α:Type}:∀{t:I α} {x:X},x.e.aD=true->bC t x=(x,none)
 |.ret a,x,h=>by unfold bC;rw[if_pos h]
 |.load c k,x,h=>by unfold bC eK;rw[if_pos h];rfl
 |.cH c o n k,x,h=>by unfold bC jT;rw[if_pos h];rfl
 |.alloc n i k,x,h=>by unfold bC dE;rw[if_pos h];rfl
 |.cell i k,x,h=>by unfold bC fU;rw[if_pos h];rfl
 |.gen k,x,h=>by unfold bC kN;rw[if_pos h];rfl
 |.node r k,x,h=>by unfold bC;exact cU h
theorem wA{α β γ:Type}(r:X×Option α)(f:α->X->X×Option β)(g:β->X->X×Option γ):kS (kS r f) g=kS r λv y=>kS (f v y) g:=by
 obtain⟨y,o⟩:=r
 cases o<;>rfl
theorem qS{α β:Type}{r:X×Option α}{f g:α->X->X×Option β}(h:∀v y,f v y=g v y):kS r f=kS r g:=by
 obtain⟨y,o⟩:=r
 cases o with
 |none=>rfl
 |some v=>exact h v y
theorem kJ{α β:Type}:∀(t:I α) (f:α->I β) (x:X),bC (t.bind f) x=kS (bC t x) λv y=>bC (f v) y
 |.ret a,f,x=>by
  unfold I.bind
  by_cases h:x.e.aD=true
  ·rw[cU h,cU h];rfl
  ·show _=kS (if x.e.aD=true then(x,none)else(x,some a)) _
   rw[if_neg h];rfl
 |.load c k,f,x=>by
  show kS (eK c x) (λv y=>bC ((k v).bind f) y)=kS (kS (eK c x) λv y=>bC (k v) y) _
  rw[wA];exact qS λv y=>kJ (k v) f y
 |.cH c o n k,f,x=>by
  show kS (jT c o n x) (λv y=>bC ((k v).bind f) y)=kS (kS (jT c o n x) λv y=>bC (k v) y) _
  rw[wA];exact qS λv y=>kJ (k v) f y
 |.alloc n i k,f,x=>by
  show kS (dE n i x) (λv y=>bC ((k v).bind f) y)=kS (kS (dE n i x) λv y=>bC (k v) y) _
  rw[wA];exact qS λv y=>kJ (k v) f y
 |.cell i k,f,x=>by
  show kS (fU i x) (λv y=>bC ((k v).bind f) y)=kS (kS (fU i x) λv y=>bC (k v) y) _
  rw[wA];exact qS λv y=>kJ (k v) f y
 |.gen k,f,x=>by
  show kS (kN x) (λv y=>bC ((k v).bind f) y)=kS (kS (kN x) λv y=>bC (k v) y) _
  rw[wA];exact qS λv y=>kJ (k v) f y
 |.node r k,f,x=>kJ (k (x.node r)) f x
theorem GB{α:Type}{r:Int}{k:Node->I α}{x:X}:bC (.node r k) x=bC (k (x.node r)) x:=rfl
theorem V1{α:Type}{a:α}{x:X}(h:x.e.aD=false):bC (.ret a) x=(x,some a):=by
 unfold bC;rw[if_neg (by rw[h];decide)]
theorem run_load{α:Type}{c:Int}{k:Int->I α}{x:X}:bC (.load c k) x=kS (eK c x) λv y=>bC (k v) y:=rfl
theorem My{α:Type}{c o n:Int}{k:Bool->I α}{x:X}:bC (.cH c o n k) x=kS (jT c o n x) λv y=>bC (k v) y:=rfl
theorem Iu{α:Type}{n:Node}{i:Int}{k:Int->I α}{x:X}:bC (.alloc n i k) x=kS (dE n i x) λv y=>bC (k v) y:=rfl
theorem Sw{α:Type}{i:Int}{k:Int->I α}{x:X}:bC (.cell i k) x=kS (fU i x) λv y=>bC (k v) y:=rfl
theorem AS{α:Type}{k:Int->I α}{x:X}:bC (.gen k) x=kS (kN x) λv y=>bC (k v) y:=rfl
end Go.Ct
end
