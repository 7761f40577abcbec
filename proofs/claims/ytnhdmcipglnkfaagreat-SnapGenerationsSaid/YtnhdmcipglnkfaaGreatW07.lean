/- Parts of a proof: Bm, Ct, Pf, Tp, It. -/
import Derived.Test.YtnhdmcipglnkfaaGreatW00
import Derived.Lib.TrailingZeros
import GoSem.Op.String
set_option linter.unusedVariables false
set_option linter.unusedSimpArgs false
set_option maxRecDepth 100000
set_option maxHeartbeats 4000000
section
namespace Go.Bm
def pop:Nat->Nat->Nat
 |0,_=>0
 |n+1,x=>x%2+pop n (x/2)
theorem lR:∀n x,pop n x<=n
 |0,_=>JV _
 |n+1,x=>by
  have:=lR n (x/2)
  simp only[pop]
  omega
theorem Av:∀m n x,pop (m+n) x=pop m x+pop n (x/2^m)
 |0,n,x=>by simp[pop]
 |m+1,n,x=>by
  rw[Nat.add_right_comm]
  simp only[pop]
  rw[Av m n (x/2),Nat.div_div_eq_div_mul,Nat.pow_succ,Nat.mul_comm 2 (2^m)]
  omega
theorem OF(n x:Nat):pop (n+1) x=pop n x+x/2^n%2:=by
 rw[Av n 1 x]
 simp[pop]
theorem tZ(k x lo m:Nat)(h:lo<2^k):x&&&(lo+2^k*m)=(x%2^k&&&lo)+2^k*(x/2^k&&&m):=by
 have h1:(x&&&(lo+2^k*m))%2^k=x%2^k&&&lo:=by
  rw[Nat.and_mod_two_pow,Nat.add_mul_mod_self_left,Nat.mod_eq_of_lt h]
 have h2:(x&&&(lo+2^k*m))/2^k=x/2^k&&&m:=by
  rw[Nat.and_div_two_pow,Nat.add_mul_div_left _ _ (Nat.two_pow_pos k),Nat.div_eq_of_lt h,xE]
 rw[<- h1,<- h2]
 exact(Nat.mod_add_div _ _).symm
theorem wA(s x:Nat):x&&&(2^s-1)=x%2^s:=Nat.and_two_pow_sub_one_eq_mod x s
def Np:Nat->Nat
 |0=>0
 |n+1=>1+2^2*Np n
def My:Nat->Nat
 |0=>0
 |n+1=>3+2^4*My n
def Yn:Nat->Nat
 |0=>0
 |n+1=>15+2^8*Yn n
def xB:Nat->Nat->Nat
 |0,_=>0
 |n+1,x=>(x%2+x/2%2)+4*xB n (x/4)
def sP:Nat->Nat->Nat
 |0,_=>0
 |n+1,x=>pop 4 x+16*sP n (x/16)
def Jx:Nat->Nat->Nat
 |0,_=>0
 |n+1,x=>pop 8 x+256*Jx n (x/256)
theorem VC:∀n x,(x/2&&&Np n)+(x&&&Np n)=xB n x
 |0,x=>by simp[Np,xB]
 |n+1,x=>by
  have ih:=VC n (x/4)
  simp only[Np,xB]
  rw[tZ 2 (x/2) 1 _ (by decide),tZ 2 x 1 _ (by decide)]
  have a1:x/2%2^2&&&1=x/2%2:=by
   rw[show (1:Nat)=2^1-1 from rfl,wA];omega
  have a2:x%2^2&&&1=x%2:=by
   rw[show (1:Nat)=2^1-1 from rfl,wA];omega
  have e1:x/2/2^2=x/4/2:=by omega
  have e2:x/2^2=x/4:=by omega
  rw[a1,a2,e1,e2]
  omega
theorem PF(n x:Nat):xB (n+1+1) x=(x%2+x/2%2)+4*(x/4%2+x/8%2)+16*xB n (x/16):=by
 simp only[xB]
 have e:x/4/4=x/16:=by omega
 have e3:x/4/2=x/8:=by omega
 rw[e,e3]
 omega
theorem D1(x:Nat):pop 4 x=x%2+x/2%2+(x/4%2+x/8%2):=by
 simp only[pop]
 have e2:x/2/2=x/4:=by omega
 have e3:x/4/2=x/8:=by omega
 rw[e2,e3]
 omega
theorem UO:∀n x,(xB (2*n) x/4&&&My n)+(xB (2*n) x&&&My n)=sP n x
 |0,x=>by simp[My,sP]
 |n+1,x=>by
  have ih:=UO n (x/16)
  have e:2*(n+1)=2*n+1+1:=by omega
  rw[e,PF]
  simp only[My,sP]
  rw[D1]
  generalize xB (2*n) (x/16)=Y at *
  generalize hp0:x%2+x/2%2=p0
  generalize hp1:x/4%2+x/8%2=p1
  have b0:p0<=2:=by omega
  have b1:p1<=2:=by omega
  rw[tZ 4 _ 3 _ (by decide),tZ 4 _ 3 _ (by decide)]
  have a1:(p0+4*p1+16*Y)/4%2^4&&&3=p1:=by
   rw[show (3:Nat)=2^2-1 from rfl,wA];omega
  have a2:(p0+4*p1+16*Y)%2^4&&&3=p0:=by
   rw[show (3:Nat)=2^2-1 from rfl,wA];omega
  have e1:(p0+4*p1+16*Y)/4/2^4=Y/4:=by omega
  have e2:(p0+4*p1+16*Y)/2^4=Y:=by omega
  rw[a1,a2,e1,e2]
  omega
theorem LY(n x:Nat):sP (n+1+1) x=pop 4 x+16*pop 4 (x/16)+256*sP n (x/256):=by
 simp only[sP]
 have e:x/16/16=x/256:=by omega
 rw[e]
 omega
theorem A7(x:Nat):pop 8 x=pop 4 x+pop 4 (x/16):=by
 have:=Av 4 4 x
 simpa using this
theorem MV:∀n x,sP n x%16<=4
 |0,_=>by simp[sP]
 |n+1,x=>by
  have:=lR 4 x
  simp only[sP]
  omega
theorem UL:∀n x,(sP (2*n) x/16+sP (2*n) x)&&&Yn n=Jx n x
 |0,x=>by simp[Yn,Jx]
 |n+1,x=>by
  have ih:=UL n (x/256)
  have e:2*(n+1)=2*n+1+1:=by omega
  rw[e,LY]
  simp only[Yn,Jx]
  rw[A7]
  have hY:=MV (2*n) (x/256)
  generalize sP (2*n) (x/256)=Y at *
  have b0:=lR 4 x
  have b1:=lR 4 (x/16)
  generalize pop 4 x=p0 at *
  generalize pop 4 (x/16)=p1 at *
  rw[tZ 8 _ 15 _ (by decide)]
  have a1:((p0+16*p1+256*Y)/16+(p0+16*p1+256*Y))%2^8&&&15=p0+p1:=by
   rw[show (15:Nat)=2^4-1 from rfl,wA];omega
  have e1:((p0+16*p1+256*Y)/16+(p0+16*p1+256*Y))/2^8=Y/16+Y:=by omega
  rw[a1,e1,ih]
theorem GC:∀n x,xB n x<4^n
 |0,_=>by simp[xB]
 |n+1,x=>by
  have:=GC n (x/4)
  simp only[xB,Nat.pow_succ]
  omega
theorem EV:∀n x,sP n x*15+4<=4*16^n
 |0,_=>by simp[sP]
 |n+1,x=>by
  have:=EV n (x/16)
  have:=lR 4 x
  simp only[sP,Nat.pow_succ]
  omega
theorem CU(x:Nat):∃p0 p1 p2 p3 p4 p5 p6 p7,p0<=8/\p1<=8/\p2<=8/\p3<=8/\p4<=8/\p5<=8/\p6<=8/\p7<=8/\
  Jx 8 x=p0+256*(p1+256*(p2+256*(p3+256*(p4+256*(p5+256*(p6+256*p7))))))/\pop 64 x=p0+p1+p2+p3+p4+p5+p6+p7:=by
 refine⟨pop 8 x,pop 8 (x/256),pop 8 (x/256/256),pop 8 (x/256/256/256),pop 8 (x/256/256/256/256),pop 8 (x/256/256/256/256/256),pop 8 (x/256/256/256/256/256/256),pop 8 (x/256/256/256/256/256/256/256),lR _ _,lR _ _,lR _ _,lR _ _,lR _ _,lR _ _,lR _ _,lR _ _,by simp[Jx],?_⟩
 rw[show (64:Nat)=8+(8+(8+(8+(8+(8+(8+8))))))from rfl]
 simp only[Av,show (2:Nat)^8=256 from rfl]
 omega
theorem YB(a b c:Nat)(h:a<c):(a+c*b)/c=b:=by
 rw[Nat.add_mul_div_left _ _ (by omega),Nat.div_eq_of_lt h,xE]
theorem CK(a b c y:Nat)(h:a<c)(e:y=a+c*b):y+y/c=(a+b)+c*b:=by
 rw[e,YB a b c h];omega
theorem QH(p0 p1 p2 p3 p4 p5 p6 p7:Nat):p0+(p1+256*(p2+256*(p3+256*(p4+256*(p5+256*(p6+256*p7))))))+256*(p1+256*(p2+256*(p3+256*(p4+256*(p5+256*(p6+256*p7))))))=
  (p0+p1+256*(p1+p2))+65536*((p2+p3)+256*(p3+p4)+65536*(p4+p5)+16777216*(p5+p6)+4294967296*(p6+p7)+1099511627776*p7):=by omega
theorem MH(p0 p1 p2 p3 p4 p5 p6 p7:Nat):(p0+p1+256*(p1+p2))+((p2+p3)+256*(p3+p4)+65536*(p4+p5)+16777216*(p5+p6)+4294967296*(p6+p7)+1099511627776*p7)+65536*((p2+p3)+256*(p3+p4)+65536*(p4+p5)+16777216*(p5+p6)+4294967296*(p6+p7)+1099511627776*p7)=
  ((p0+p1+p2+p3)+256*(p1+p2+p3+p4)+65536*(p2+p3+p4+p5)+16777216*(p3+p4+p5+p6))+4294967296*((p4+p5+p6+p7)+256*(p5+p6+p7)+65536*(p6+p7)+16777216*p7):=by omega
theorem NT(p0 p1 p2 p3 p4 p5 p6 p7 X:Nat):((p0+p1+p2+p3)+256*(p1+p2+p3+p4)+65536*(p2+p3+p4+p5)+16777216*(p3+p4+p5+p6))+((p4+p5+p6+p7)+256*(p5+p6+p7)+65536*(p6+p7)+16777216*p7)+4294967296*X=
  (p0+p1+p2+p3+p4+p5+p6+p7)+128*(2*((p1+p2+p3+p4)+(p5+p6+p7)+256*((p2+p3+p4+p5)+(p6+p7))+65536*(p3+p4+p5+p6+p7)+16777216*X)):=by omega
theorem ZI(x:Nat):∃y1 y2 y3:Nat,y1=Jx 8 x+Jx 8 x/256/\y2=y1+y1/65536/\y3=y2+y2/4294967296/\
  y1<18446744073709551616/\y2<18446744073709551616/\y3<18446744073709551616/\y3%128=pop 64 x:=by
 obtain⟨p0,p1,p2,p3,p4,p5,p6,p7,b0,b1,b2,b3,b4,b5,b6,b7,e,ep⟩:=CU x
 have g1:=CK p0 _ 256 _ (by omega) e
 rw[QH]at g1
 have g2:=CK _ _ 65536 _ (by omega) g1
 rw[MH]at g2
 have g3:=CK _ _ 4294967296 _ (by omega) g2
 refine⟨_,_,_,rfl,rfl,rfl,?_,?_,?_,?_⟩
 ·rw[g1];clear g1 g2 g3 e ep;omega
 ·rw[g2];clear g1 g2 g3 e ep;omega
 ·rw[g3];clear g1 g2 g3 e ep;omega
 ·rw[g3,NT,ep]
  clear g1 g2 g3 e ep
  rw[Nat.add_mul_mod_self_left]
  exact Nat.mod_eq_of_lt (by omega)
theorem ZM:Np 32=6148914691236517205/\My 16=3689348814741910323/\Yn 8=1085102592571150095:=by decide
theorem Xx(b i:Nat):b.testBit i=decide (b/2^i%2=1):=by
 rw[Nat.testBit_eq_decide_div_mod_eq]
theorem Oz(b i:Nat):b/2^i%2=(b.testBit i).toNat:=by
 rw[Xx]
 by_cases h:b/2^i%2=1
 ·simp[h]
 ·simp[h];omega
def has(b:Nat)(i:Int):Bool:=decide (0<=i)&&(decide (i<64)&&b.testBit i.toNat)
def cut(i:Int):Nat:=if i<=0 then 0 else if 64<=i then 64 else i.toNat
def aO(b:Nat)(i:Int):Nat:=pop (cut i) b
def cI(b:Nat)(i:Int):Nat:=if 0<=i/\i<64 then b|||2^i.toNat else b
def jD(b:Nat)(i:Int):Nat:=if has b i=true then b-2^i.toNat else b
def Nu(n b:Nat):List Nat:=(List.range n).filter λi=>b.testBit i
def indices(b:Nat):List Nat:=Nu 64 b
def at_(b:Nat)(p:Int):Int:=if 0<=p/\p<(indices b).length then((indices b).getD p.toNat 0:Nat)else -1
theorem cZ(n b:Nat):pop (n+1) b=pop n b+(b.testBit n).toNat:=by
 rw[OF,Oz]
theorem yA(n b:Nat):(Nu n b).length=pop n b:=by
 induction n with
 |zero=>rfl
 |succ n ih=>
  rw[cZ,<- ih]
  unfold Nu
  rw[List.range_succ,zE,cO]
  cases h:b.testBit n<;>simp[h]
theorem Fc(b i j:Nat)(h:b.testBit i=true):(b-2^i).testBit j=(b.testBit j&&!decide (i=j)):=by
 have h1:b/2^i%2=1:=by rw[Nat.testBit_eq_decide_div_mod_eq]at h;simpa using h
 have hr:b%2^i<2^i:=Nat.mod_lt _ (Nat.two_pow_pos i)
 obtain⟨q,hq⟩:∃q,b/2^i=2*q+1:=⟨b/2^i/2,by omega⟩
 have hb:b=2^i*(2*q+1)+b%2^i:=by rw[<- hq];exact(Nat.div_add_mod b (2^i)).symm
 generalize b%2^i=r at *
 have e:b-2^i=2^i*(2*q)+r:=by rw[hb,Nat.mul_add];omega
 rw[e]
 conv=>rhs;rw[hb]
 rw[Nat.testBit_two_pow_mul_add _ hr,Nat.testBit_two_pow_mul_add _ hr]
 by_cases hj:j<i
 ·have:¬i=j:=by omega
  simp[hj,this]
 ·by_cases hij:i=j
  ·subst hij;simp[Nat.testBit_zero]
  ·obtain⟨d,rfl⟩:∃d,j=i+(d+1):=⟨j-i-1,by omega⟩
   have e3:i+(d+1)-i=d+1:=by omega
   rw[if_neg hj,if_neg hj,e3,Nat.testBit_succ,Nat.testBit_succ]
   have d1:(2*q+1)/2=q:=by omega
   have d2:2*q/2=q:=by omega
   rw[d1,d2]
   simp
def andNot(a m:Nat):Nat:=a^^^(a&&&m)
theorem uQ(a m j:Nat):(andNot a m).testBit j=(a.testBit j&&!m.testBit j):=by
 unfold andNot
 rw[Nat.testBit_xor,Nat.testBit_and]
 cases a.testBit j<;>cases m.testBit j<;>rfl
theorem CX(b i:Nat):andNot b (2^i)=if b.testBit i then b-2^i else b:=by
 apply Nat.eq_of_testBit_eq
 intro j
 rw[uQ,Nat.testBit_two_pow]
 by_cases h:b.testBit i=true
 ·rw[if_pos h,Fc b i j h]
 ·rw[if_neg h]
  by_cases hij:i=j
  ·subst hij;simp at h;simp[h]
  ·simp[hij]
theorem Bo(n x:Nat):Nu (n+1) x=Nu n x++if x.testBit n then[n]else[]:=by
 unfold Nu
 rw[List.range_succ,zE]
 cases h:x.testBit n<;>simp[h]
def drop:Nat->Nat->Nat
 |0,x=>x
 |k+1,x=>drop k x&&&(drop k x-1)
theorem Zn(b:Nat):pop 0 b=0:=rfl
theorem iM(b:Nat)(i:Int)(h:b<18446744073709551616):cI b i<18446744073709551616:=by
 unfold cI
 split
 ·rename_i hi
  have:2^i.toNat<2^64:=Nat.pow_lt_pow_right (by decide) (by omega)
  have:=Nat.or_lt_two_pow (n:=64) (x:=b) (y:=2^i.toNat) (by simpa using h) this
  simpa using this
 ·exact h
theorem Dz(b:Nat)(i:Int)(h:b<18446744073709551616):jD b i<18446744073709551616:=by
 unfold jD;split
 ·exact fU (Nat.sub_le _ _) h
 ·exact h
theorem gL(b:Nat)(x:Nat)(hx:x<64)(j:Nat):(cI b (x:Int)).testBit j=(b.testBit j||decide (x=j)):=by
 unfold cI
 rw[if_pos (by omega),Nat.testBit_or,GY,Nat.testBit_two_pow]
theorem kW(b:Nat)(x:Nat)(hx:x<64)(j:Nat):(jD b (x:Int)).testBit j=(b.testBit j&&!decide (x=j)):=by
 have e:jD b (x:Int)=andNot b (2^x):=by
  have h1:(x:Int)<64:=by omega
  rw[CX];unfold jD has;simp[h1]
 rw[e,uQ,Nat.testBit_two_pow]
theorem nI(b x:Nat)(hx:x<64):has b (x:Int)=b.testBit x:=by
 have h1:(x:Int)<64:=by omega
 unfold has;simp[h1]
theorem IW(b x y:Nat)(hx:x<64)(hy:y<64):has (cI b x) y=(has b y||decide (x=y)):=by
 rw[nI _ _ hy,nI _ _ hy,gL b x hx]
theorem Su(b x:Nat)(hx:x<64):cI (jD b x) x=cI b x:=by
 apply Nat.eq_of_testBit_eq
 intro j
 rw[gL _ x hx,kW _ x hx,gL _ x hx]
 by_cases h:x=j<;>simp[h]
theorem rQ(b x:Nat)(hx:x<64):∀y,pop y (cI b x)=pop y b+if x<y/\b.testBit x=false then 1 else 0
 |0=>by rw[pop,pop];simp
 |y+1=>by
  rw[cZ,cZ,rQ b x hx y,gL b x hx]
  by_cases hb:b.testBit x=true
  ·have:(b.testBit y||decide (x=y))=b.testBit y:=by
    by_cases h:x=y
    ·subst h;simp[hb]
    ·simp[h]
   simp[hb,this]
  ·have hb':b.testBit x=false:=by simpa using hb
   by_cases h:x=y
   ·subst h;simp[hb']
   ·simp only[hb',h,decide_false,Bool.or_false,and_true]
    by_cases h2:x<y
    ·rw[if_pos h2,if_pos (by omega)];omega
    ·rw[if_neg h2,if_neg (by omega)];omega
theorem Pd(b:Nat):aO b 64=pop 64 b:=rfl
attribute [irreducible] pop Nu drop
end Go.Bm
end
section
namespace Go.Ct
structure bN where
 key:ByteArray
 value:Nat
 deriving DecidableEq
structure Node where
 kind:Int:=0
 gen:Int:=0
 main:Int:=0
 aD:Nat:=0
 aA:List Int:=[]
 hash:Nat:=0
 key:ByteArray:=.empty
 value:Nat:=0
 aF:List bN:=[]
 prev:Int:=0
 dC:Int:=0
 aK:Int:=0
 new:Int:=0
 status:Int:=0
 deriving DecidableEq
structure St where
 aG:List Node:=[]
 cells:List Int:=[]
 gen:Nat:=0
 acc:Nat:=0
def Node.bM(n:Node):Bool:=n.kind==3||n.kind==5||n.kind==6
def St.nodes(s:St):Nat:=2+s.aG.length
def St.size(s:St):Nat:=s.aG.length+s.cells.length+s.gen+s.acc
def St.K8(s:St):Prop:=s.size+100<=274877906944
def St.aV(s:St)(initial:Int):St×Int:=({s with cells:=s.cells++[initial]},s.cells.length+1)
def St.bS(s:St):St×Int:=({s with gen:=s.gen+1},s.gen+1)
def Node.bare(n:Node):Node:={n with main:=0,prev:=0,status:=0}
def St.alloc(s:St)(n:Node)(initial:Int):St×Int:=
 let c:Int:=s.cells.length+1
 let s1:St:=if n.kind==2||n.bM||n.kind==8 then(s.aV initial).1 else s
 let n1:Node:=if n.kind==2 then{n.bare with main:=c}else if n.bM then{n.bare with prev:=c}else if n.kind==8 then{n.bare with status:=c}else n.bare
 ({s1 with aG:=s1.aG++[n1]},s.aG.length+3)
def St.cA(s:St)(c:Int):Bool:=decide (1<=c)&&decide (c<=s.cells.length)
def St.load(s:St)(c:Int):St×Int:=({s with acc:=s.acc+1},if s.cA c then s.cells.getD (c.toNat-1) 0 else 0)
def St.xU(s:St)(c dC:Int):Bool:=s.cA c&&s.cells.getD (c.toNat-1) 0==dC
def St.eA(s:St)(c dC new:Int):St×Bool:=
 ({s with acc:=s.acc+1,cells:=if s.xU c dC then s.cells.set (c.toNat-1) new else s.cells},s.xU c dC)
def gY:Node:={kind:=1}
def St.node(s:St)(r:Int):Node:=
 if r<1\/s.nodes<r then{}else if r<=2 then gY else s.aG.getD (r.toNat-3) {}
structure bC where
 root:Int:=0
 readOnly:Bool:=false
 deriving DecidableEq
structure Result where
 err:Int:=0
 found:Bool:=false
 value:Nat:=0
 key:ByteArray:=.empty
 count:Int:=0
 ref:Int:=0
 aE:bC:={}
 deriving DecidableEq
end Go.Ct
end
section
namespace Go.Ct
def qJ(h:Nat)(b:UInt8):Nat:=((h^^^b.toNat)*1099511628211)%18446744073709551616
def Ly(key:List UInt8):Nat:=key.foldl qJ 14695981039346656037
def aH(key:ByteArray)(aI:Nat):Nat:=Ly key.data.toList&&&aI
def bU(key:ByteArray):Bool:=decide (key.size<=64)
def slice(h:Nat)(level:Int):Int:=if level<0\/10<level then 0 else((h/64^level.toNat%64:Nat):Int)
def jJ(h k:Nat):Nat->Nat->Nat
 |0,l=>l
 |n+1,l=>if slice h l=slice k l then jJ h k n (l+1)else l
def aJ(h k:Nat):Nat:=jJ h k 11 0
def dM(a b:ByteArray):Bool:=Op.bytesLess a.toList b.toList
def bR(a b:ByteArray):Bool:=a.toList==b.toList
def aQ:List bN->Bool
 |a::b::l=>dM a.key b.key&&aQ (b::l)
 |_=>true
def aZ:List bN->ByteArray->Nat
 |[],_=>0
 |q::l,key=>if dM q.key key then aZ l key+1 else 0
def iE(l:List bN)(i:Nat):bN:=l.getD i ⟨.empty,0⟩
def iZ(l:List bN)(key:ByteArray):Bool:=decide (aZ l key<l.length)&&bR (iE l (aZ l key)).key key
def bB(l:List bN)(key:ByteArray):Nat×Bool:=if aQ l&&iZ l key then((iE l (aZ l key)).value,true)else(0,false)
def mC(l:List bN)(key:ByteArray)(v:Nat):List bN:=
 if aQ l=false then[]
 else if iZ l key then l.take (aZ l key)++⟨(iE l (aZ l key)).key,v⟩::l.drop (aZ l key+1)
 else l.take (aZ l key)++⟨key,v⟩::l.drop (aZ l key)
def gX(l:List bN)(key:ByteArray):List bN:=
 if aQ l=false then[]else if iZ l key then l.take (aZ l key)++l.drop (aZ l key+1)else l
def gG(a b:bN):List bN:=if dM b.key a.key then[b,a]else[a,b]
def AP(a b:bN):Bool:=bR a.key b.key&&a.value==b.value
def mJ:List bN->List bN->Bool
 |[],[]=>true
 |a::l,b::k=>AP a b&&mJ l k
 |_,_=>false
def Node.only(n:Node):Node:=
 if n.kind=1 then{kind:=n.kind}
 else if n.kind=2 then{kind:=n.kind,gen:=n.gen,main:=n.main}
 else if n.kind=3 then{kind:=n.kind,aD:=n.aD,aA:=n.aA,prev:=n.prev}
 else if n.kind=4 then{kind:=n.kind,hash:=n.hash,key:=n.key,value:=n.value}
 else if n.kind=5 then{kind:=n.kind,hash:=n.hash,key:=n.key,value:=n.value,prev:=n.prev}
 else if n.kind=6 then{kind:=n.kind,hash:=n.hash,aF:=n.aF,prev:=n.prev}
 else if n.kind=7 then{kind:=n.kind,dC:=n.dC}
 else if n.kind=8 then{kind:=n.kind,dC:=n.dC,aK:=n.aK,new:=n.new,status:=n.status}
 else{kind:=n.kind}
def fT(a b:Node):Bool:=
 a.kind==b.kind&&a.gen==b.gen&&a.main==b.main&&a.aD==b.aD&&a.hash==b.hash&&bR a.key b.key&&a.value==b.value&&
 (a.aA==b.aA&&(mJ a.aF b.aF&&(a.prev==b.prev&&(a.dC==b.dC&&(a.aK==b.aK&&(a.new==b.new&&a.status==b.status))))))
def kS(l:List bN):Bool:=l.all λp=>decide (p.key.size<=64)
def Node.valid(n:Node):Bool:=
 if n.kind<1\/8<n.kind\/fT n n.only=false\/n.main<0\/n.prev<0\/n.status<0 then false
 else if n.kind=2 then decide (1<=n.gen)
 else if n.kind=3 then(n.aA.all λb=>decide (1<=b))&&n.aA.length==Bm.pop 64 n.aD
 else if n.kind=4\/n.kind=5 then decide (n.key.size<=64)
 else if n.kind=6 then decide (2<=n.aF.length)&&(aQ n.aF&&kS n.aF)
 else if n.kind=7 then decide (1<=n.dC)
 else if n.kind=8 then decide (1<=n.dC)&&(decide (1<=n.aK)&&decide (1<=n.new))
 else true
def Node.lO(c:Node):Bool:=c.kind==3&&c.valid
def aB(c:Node)(i:Int):Int×Bool:=if c.lO=false\/Bm.has c.aD i=false then(0,false)else(c.aA.getD (Bm.aO c.aD i) 0,true)
def aS(c:Node)(i r:Int):Node×Bool:=
 if c.lO=false\/i<0\/63<i\/r<1\/Bm.has c.aD i=true then({},false)
 else({kind:=3,aD:=Bm.cI c.aD i,aA:=c.aA.take (Bm.aO c.aD i)++r::c.aA.drop (Bm.aO c.aD i)},true)
def aP(c:Node)(i r:Int):Node×Bool:=
 if c.lO=false\/i<0\/63<i\/r<1\/Bm.has c.aD i=false then({},false)
 else({kind:=3,aD:=c.aD,aA:=c.aA.take (Bm.aO c.aD i)++r::c.aA.drop (Bm.aO c.aD i+1)},true)
def bL(c:Node)(i:Int):Node×Bool:=
 if c.lO=false\/i<0\/63<i\/Bm.has c.aD i=false then({},false)
 else({kind:=3,aD:=Bm.jD c.aD i,aA:=c.aA.take (Bm.aO c.aD i)++c.aA.drop (Bm.aO c.aD i+1)},true)
def fF(c:Node):Int×Bool:=if c.lO=false\/c.aA.length≠1 then(0,false)else(c.aA.getD 0 0,true)
def AV(n:Node):Node:={kind:=5,hash:=n.hash,key:=n.key,value:=n.value}
def Xf(n:Node):Node:={kind:=4,hash:=n.hash,key:=n.key,value:=n.value}
def bQ(c:Node)(level:Int)(sole:Node):Node:=if 0<level/\(fF c).2=true/\sole.kind=4 then AV sole else c
def aT(t:Node):Node×Bool:=if t.kind=5 then(Xf t,true)else({},false)
def Node.Kx(l:Node):Bool:=l.kind==6&&l.valid
def grown(l:Node)(key:ByteArray)(v:Nat):Node×Bool:=if l.Kx=false\/64<key.size then({},false)else({kind:=6,hash:=l.hash,aF:=mC l.aF key v},true)
def gC(l:Node)(key:ByteArray):Node×Bool:=
 if l.Kx=false\/(bB l.aF key).2=false then({},false)
 else match gX l.aF key with
  |[p]=>({kind:=5,hash:=l.hash,key:=p.key,value:=p.value},true)
  |rest=>({kind:=6,hash:=l.hash,aF:=rest},true)
def Node.fits(L:Nat)(n:Node):Prop:=
 n.aA.length<=1000000/\n.aF.length<=L+2/\n.aD<18446744073709551616/\n.hash<18446744073709551616/\n.key.size<=9223372036854775807/\(∀p∈n.aF,p.key.size<=9223372036854775807)/\(n.kind=3\/n.kind=6->n.valid=true)
theorem BV(L:Nat)(k g o e w:Int)(h:k≠3/\k≠6:=by decide):Node.fits L {kind:=k,gen:=g,dC:=o,aK:=e,new:=w}:=
 ⟨dF _,dF _,by show (0:Nat)<_;decide,by show (0:Nat)<_;decide,by show (0:Nat)<=_;decide,(λp hp=>by cases hp),λhk=>absurd hk (by rintro(h1|h1);exact h.1 h1;exact h.2 h1)⟩
theorem BN(L:Nat):Node.fits L {kind:=3}:=
 ⟨dF _,dF _,by show (0:Nat)<_;decide,by show (0:Nat)<_;decide,by show (0:Nat)<=_;decide,(λp hp=>by cases hp),λ_=>by decide+kernel⟩
theorem Node.fits.mono{L M:Nat}{n:Node}(h:n.fits L)(hLM:L<=M):n.fits M:=⟨h.1,lK h.2.1 (by omega),h.2.2⟩
theorem yB(a:ByteArray):bR a a=true:=by unfold bR;simp
theorem sO:∀l:List bN,mJ l l=true
 |[]=>rfl
 |a::l=>by rw[mJ,sO l];unfold AP;rw[yB];simp
theorem EZ(b:Nat)(l:List Int)(c:Int)(hc:0<=c):Node.valid {kind:=3,aD:=b,aA:=l,prev:=c}=((l.all λb=>decide (1<=b))&&l.length==Bm.pop 64 b):=by
 have h1:fT {kind:=3,aD:=b,aA:=l,prev:=c} (Node.only {kind:=3,aD:=b,aA:=l,prev:=c})=true:=by
  simp[Node.only,fT,yB,mJ]
 unfold Node.valid
 rw[h1]
 simp
 omega
theorem SC(h:Nat)(l:List bN)(c:Int)(hc:0<=c):Node.valid {kind:=6,hash:=h,aF:=l,prev:=c}=(decide (2<=l.length)&&(aQ l&&kS l)):=by
 have h1:fT {kind:=6,hash:=h,aF:=l,prev:=c} (Node.only {kind:=6,hash:=h,aF:=l,prev:=c})=true:=by
  simp[Node.only,fT,yB,sO]
 unfold Node.valid
 rw[h1]
 simp
 omega
theorem yJ(n:Node)(c:Int)(hc:0<=c)(hk:n.kind=3\/n.kind=6)(h:n.valid=true):({n.bare with prev:=c}:Node).valid=true:=by
 have hp:=sO n.aF
 rcases hk with hk|hk<;>
 ·unfold Node.valid at h ⊢
  simp only[Node.bare,Node.only,fT,hk]at h ⊢
  simp at h ⊢
  simp_all
  try omega
theorem WX{n:Node}(hk:n.kind=3)(h:n.valid=true):fT n {kind:=3,aD:=n.aD,aA:=n.aA,prev:=n.prev}=true/\n.main=0/\0<=n.prev/\n.status=0/\(n.aA.all λb=>decide (1<=b))=true/\n.aA.length=Bm.pop 64 n.aD:=by
 unfold Node.valid at h
 by_cases hc:n.kind<1\/8<n.kind\/fT n n.only=false\/n.main<0\/n.prev<0\/n.status<0
 ·rw[if_pos hc]at h;cases h
 ·rw[if_neg hc,if_neg (by omega),if_pos hk,Qb]at h
  have ho:n.only={kind:=3,aD:=n.aD,aA:=n.aA,prev:=n.prev}:=by unfold Node.only;simp[hk]
  have hq:fT n n.only=true:=by
   cases hq:fT n n.only with
   |true=>rfl
   |false=>exact absurd (.inr (.inr (.inl hq))) hc
  rw[ho]at hq
  have hq':=hq
  unfold fT at hq'
  simp only[Qb,mQ]at hq'
  exact⟨hq,hq'.1.1.1.1.1.2,by omega,hq'.2.2.2.2.2.2.2,h.1,by simpa using h.2⟩
theorem NB{n:Node}(hk:n.kind=6)(h:n.valid=true):fT n {kind:=6,hash:=n.hash,aF:=n.aF,prev:=n.prev}=true/\n.main=0/\0<=n.prev/\n.status=0/\2<=n.aF.length/\aQ n.aF=true/\kS n.aF=true:=by
 unfold Node.valid at h
 by_cases hc:n.kind<1\/8<n.kind\/fT n n.only=false\/n.main<0\/n.prev<0\/n.status<0
 ·rw[if_pos hc]at h;cases h
 ·rw[if_neg hc,if_neg (by omega),if_neg (by omega),if_neg (by omega),if_pos hk,Qb,Qb]at h
  have ho:n.only={kind:=6,hash:=n.hash,aF:=n.aF,prev:=n.prev}:=by unfold Node.only;simp[hk]
  have hq:fT n n.only=true:=by
   cases hq:fT n n.only with
   |true=>rfl
   |false=>exact absurd (.inr (.inr (.inl hq))) hc
  rw[ho]at hq
  have hq':=hq
  unfold fT at hq'
  simp only[Qb,mQ]at hq'
  exact⟨hq,hq'.1.1.1.1.1.2,by omega,hq'.2.2.2.2.2.2.2,by simpa using h.1,h.2.1,h.2.2⟩
end Go.Ct
end
section
namespace Go.Ct
structure Acc where
 kind:Int:=0
 cell:Int:=0
 dC:Int:=0
 new:Int:=0
 deriving DecidableEq
structure O5 where
 A2:Int:=0
 acc:Acc:={}
 A1:Int:=0
 o8:Bool:=false
 deriving DecidableEq
end Go.Ct
namespace Go.Ct
end Go.Ct
namespace Go.Ct
end Go.Ct
end
section
namespace Go.Ct
inductive I(α:Type) where
 |ret (a:α)
 |load (c:Int) (k:Int->I α)
 |eA (c dC new:Int) (k:Bool->I α)
 |alloc (n:Node) (i:Int) (k:Int->I α)
 |cell (i:Int) (k:Int->I α)
 |gen (k:Int->I α)
 |node (r:Int) (k:Node->I α)
def I.bind{α β:Type}:I α->(α->I β)->I β
 |.ret a,f=>f a
 |.load c k,f=>.load c λv=>(k v).bind f
 |.eA c o n k,f=>.eA c o n λv=>(k v).bind f
 |.alloc n i k,f=>.alloc n i λv=>(k v).bind f
 |.cell i k,f=>.cell i λv=>(k v).bind f
 |.gen k,f=>.gen λv=>(k v).bind f
 |.node r k,f=>.node r λv=>(k v).bind f
structure Frame where
 c:Int:=0
 k:Int:=0
 deriving DecidableEq
structure l9 where
 started:Bool:=false
 stack:List Frame:=[]
 wait:List bN:=[]
 deriving DecidableEq
structure Call where
 kind:Int:=0
 aE:bC:={}
 a:Int:=0
 b:Int:=0
 n:Int:=0
 index:Int:=0
 hash:Nat:=0
 aI:Nat:=0
 key:ByteArray:=.empty
 value:Nat:=0
 expect:Nat:=0
 bF:Int:=0
 only:Bool:=false
 walk:l9:={}
 answer:Result:={}
 deriving DecidableEq
structure Ex where
 call:Call:={}
 eG:List Int:=[]
 made:List Int:=[]
 cells:List Int:=[]
 dG:List Int:=[]
 a:Nat:=0
 m:Nat:=0
 c:Nat:=0
 g:Nat:=0
 free:Nat:=0
 aC:Bool:=false
 next:Acc:={}
 done:Bool:=false
 result:Result:={}
 walk:l9:={}
structure X where
 e:Ex
 s:St
def X.node(x:X)(r:Int):Node:=x.s.node r
def WK(b:Bool):Int:=if b then 1 else 0
def rX(want:Acc)(x:X):X:={x with e:={x.e with aC:=true,next:=want}}
def nD(x:X):X:={x with e:={x.e with a:=x.e.a+1}}
def jR(v:Int)(s:St)(x:X):X:={e:={x.e with free:=x.e.free-1,eG:=x.e.eG++[v],a:=x.e.a+1},s:=s}
def dY(c:Int)(x:X):X×Option Int:=
 if x.e.aC=true then(x,none)
 else if x.e.a<x.e.eG.length then(nD x,some (x.e.eG.getD x.e.a 0))
 else if x.e.free=0 then(rX ⟨1,c,0,0⟩ x,none)
 else(jR (x.s.load c).2 (x.s.load c).1 x,some (x.s.load c).2)
def iB(c dC new:Int)(x:X):X×Option Bool:=
 if x.e.aC=true then(x,none)
 else if x.e.a<x.e.eG.length then(nD x,some (x.e.eG.getD x.e.a 0==1))
 else if x.e.free=0 then(rX ⟨2,c,dC,new⟩ x,none)
 else(jR (WK (x.s.eA c dC new).2) (x.s.eA c dC new).1 x,some (x.s.eA c dC new).2)
def dB(n:Node)(i:Int)(x:X):X×Option Int:=
 if x.e.aC=true then(x,none)
 else if x.e.m=x.e.made.length then({e:={x.e with made:=x.e.made++[(x.s.alloc n i).2],m:=x.e.m+1},s:=(x.s.alloc n i).1},some (x.s.alloc n i).2)
 else({x with e:={x.e with m:=x.e.m+1}},some (x.e.made.getD x.e.m 0))
def fE(i:Int)(x:X):X×Option Int:=
 if x.e.aC=true then(x,none)
 else if x.e.c=x.e.cells.length then({e:={x.e with cells:=x.e.cells++[(x.s.aV i).2],c:=x.e.c+1},s:=(x.s.aV i).1},some (x.s.aV i).2)
 else({x with e:={x.e with c:=x.e.c+1}},some (x.e.cells.getD x.e.c 0))
def iH(x:X):X×Option Int:=
 if x.e.aC=true then(x,none)
 else if x.e.g=x.e.dG.length then({e:={x.e with dG:=x.e.dG++[x.s.bS.2],g:=x.e.g+1},s:=x.s.bS.1},some x.s.bS.2)
 else({x with e:={x.e with g:=x.e.g+1}},some (x.e.dG.getD x.e.g 0))
def iP{α β:Type}(r:X×Option α)(f:α->X->X×Option β):X×Option β:=match r with
 |(y,some v)=>f v y
 |(y,none)=>(y,none)
def aX{α:Type}:I α->X->X×Option α
 |.ret a,x=>if x.e.aC=true then(x,none)else(x,some a)
 |.load c k,x=>iP (dY c x) λv y=>aX (k v) y
 |.eA c o n k,x=>iP (iB c o n x) λv y=>aX (k v) y
 |.alloc n i k,x=>iP (dB n i x) λv y=>aX (k v) y
 |.cell i k,x=>iP (fE i x) λv y=>aX (k v) y
 |.gen k,x=>iP (iH x) λv y=>aX (k v) y
 |.node r k,x=>aX (k (x.node r)) x
theorem Uf{c:Int}{x y:X}{v:Int}(h:dY c x=(y,some v)):y.e.aC=false:=by
 unfold dY at h
 split at h
 ·cases h
 ·rename_i h0
  have h0:x.e.aC=false:=by simpa using h0
  split at h
  ·cases h;exact h0
  ·split at h
   ·cases h
   ·cases h;exact h0
theorem TH{c o n:Int}{x y:X}{v:Bool}(h:iB c o n x=(y,some v)):y.e.aC=false:=by
 unfold iB at h
 split at h
 ·cases h
 ·rename_i h0
  have h0:x.e.aC=false:=by simpa using h0
  split at h
  ·cases h;exact h0
  ·split at h
   ·cases h
   ·cases h;exact h0
theorem IF{n:Node}{i:Int}{x y:X}{v:Int}(h:dB n i x=(y,some v)):y.e.aC=false:=by
 unfold dB at h
 split at h
 ·cases h
 ·rename_i h0
  have h0:x.e.aC=false:=by simpa using h0
  split at h<;>cases h<;>exact h0
theorem MQ{i:Int}{x y:X}{v:Int}(h:fE i x=(y,some v)):y.e.aC=false:=by
 unfold fE at h
 split at h
 ·cases h
 ·rename_i h0
  have h0:x.e.aC=false:=by simpa using h0
  split at h<;>cases h<;>exact h0
theorem UA{x y:X}{v:Int}(h:iH x=(y,some v)):y.e.aC=false:=by
 unfold iH at h
 split at h
 ·cases h
 ·rename_i h0
  have h0:x.e.aC=false:=by simpa using h0
  split at h<;>cases h<;>exact h0
theorem Wg{c:Int}{x y:X}(h:dY c x=(y,none)):y.e.aC=true:=by
 unfold dY at h
 split at h
 ·rename_i h0;cases h;exact h0
 ·split at h
  ·cases h
  ·split at h
   ·cases h;rfl
   ·cases h
theorem SM{c o n:Int}{x y:X}(h:iB c o n x=(y,none)):y.e.aC=true:=by
 unfold iB at h
 split at h
 ·rename_i h0;cases h;exact h0
 ·split at h
  ·cases h
  ·split at h
   ·cases h;rfl
   ·cases h
theorem IV{n:Node}{i:Int}{x y:X}(h:dB n i x=(y,none)):y=x/\x.e.aC=true:=by
 unfold dB at h
 split at h
 ·rename_i h0;cases h;exact⟨rfl,h0⟩
 ·split at h<;>cases h
theorem OE{i:Int}{x y:X}(h:fE i x=(y,none)):y=x/\x.e.aC=true:=by
 unfold fE at h
 split at h
 ·rename_i h0;cases h;exact⟨rfl,h0⟩
 ·split at h<;>cases h
theorem TI{x y:X}(h:iH x=(y,none)):y=x/\x.e.aC=true:=by
 unfold iH at h
 split at h
 ·rename_i h0;cases h;exact⟨rfl,h0⟩
 ·split at h<;>cases h
theorem cP{α:Type}:∀{t:I α} {x:X},x.e.aC=true->aX t x=(x,none)
 |.ret a,x,h=>by unfold aX;rw[if_pos h]
 |.load c k,x,h=>by unfold aX dY;rw[if_pos h];rfl
 |.eA c o n k,x,h=>by unfold aX iB;rw[if_pos h];rfl
 |.alloc n i k,x,h=>by unfold aX dB;rw[if_pos h];rfl
 |.cell i k,x,h=>by unfold aX fE;rw[if_pos h];rfl
 |.gen k,x,h=>by unfold aX iH;rw[if_pos h];rfl
 |.node r k,x,h=>by unfold aX;exact cP h
theorem rU{α β γ:Type}(r:X×Option α)(f:α->X->X×Option β)(g:β->X->X×Option γ):iP (iP r f) g=iP r λv y=>iP (f v y) g:=by
 obtain⟨y,o⟩:=r
 cases o<;>rfl
theorem mX{α β:Type}{r:X×Option α}{f g:α->X->X×Option β}(h:∀v y,f v y=g v y):iP r f=iP r g:=by
 obtain⟨y,o⟩:=r
 cases o with
 |none=>rfl
 |some v=>exact h v y
theorem iJ{α β:Type}:∀(t:I α) (f:α->I β) (x:X),aX (t.bind f) x=iP (aX t x) λv y=>aX (f v) y
 |.ret a,f,x=>by
  unfold I.bind
  by_cases h:x.e.aC=true
  ·rw[cP h,cP h];rfl
  ·show _=iP (if x.e.aC=true then(x,none)else(x,some a)) _
   rw[if_neg h];rfl
 |.load c k,f,x=>by
  show iP (dY c x) (λv y=>aX ((k v).bind f) y)=iP (iP (dY c x) λv y=>aX (k v) y) _
  rw[rU];exact mX λv y=>iJ (k v) f y
 |.eA c o n k,f,x=>by
  show iP (iB c o n x) (λv y=>aX ((k v).bind f) y)=iP (iP (iB c o n x) λv y=>aX (k v) y) _
  rw[rU];exact mX λv y=>iJ (k v) f y
 |.alloc n i k,f,x=>by
  show iP (dB n i x) (λv y=>aX ((k v).bind f) y)=iP (iP (dB n i x) λv y=>aX (k v) y) _
  rw[rU];exact mX λv y=>iJ (k v) f y
 |.cell i k,f,x=>by
  show iP (fE i x) (λv y=>aX ((k v).bind f) y)=iP (iP (fE i x) λv y=>aX (k v) y) _
  rw[rU];exact mX λv y=>iJ (k v) f y
 |.gen k,f,x=>by
  show iP (iH x) (λv y=>aX ((k v).bind f) y)=iP (iP (iH x) λv y=>aX (k v) y) _
  rw[rU];exact mX λv y=>iJ (k v) f y
 |.node r k,f,x=>iJ (k (x.node r)) f x
theorem Uo{α:Type}{r:Int}{k:Node->I α}{x:X}:aX (.node r k) x=aX (k (x.node r)) x:=rfl
theorem UH{α:Type}{a:α}{x:X}(h:x.e.aC=false):aX (.ret a) x=(x,some a):=by
 unfold aX;rw[if_neg (by rw[h];decide)]
theorem run_load{α:Type}{c:Int}{k:Int->I α}{x:X}:aX (.load c k) x=iP (dY c x) λv y=>aX (k v) y:=rfl
theorem Gk{α:Type}{c o n:Int}{k:Bool->I α}{x:X}:aX (.eA c o n k) x=iP (iB c o n x) λv y=>aX (k v) y:=rfl
theorem Db{α:Type}{n:Node}{i:Int}{k:Int->I α}{x:X}:aX (.alloc n i k) x=iP (dB n i x) λv y=>aX (k v) y:=rfl
theorem Ip{α:Type}{i:Int}{k:Int->I α}{x:X}:aX (.cell i k) x=iP (fE i x) λv y=>aX (k v) y:=rfl
theorem Tq{α:Type}{k:Int->I α}{x:X}:aX (.gen k) x=iP (iH x) λv y=>aX (k v) y:=rfl
end Go.Ct
end
