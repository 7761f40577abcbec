/- Parts of a proof: Bm, Ct, Pf, Tp, It. -/
import Derived.Lib.TrailingZeros
import GoSem.Op.String
set_option linter.unusedVariables false
set_option linter.unusedSimpArgs false
set_option maxRecDepth 100000
set_option maxHeartbeats 4000000
section
namespace Go.Bm
def pop : Nat→Nat→Nat
 | 0,_=>0
 | n+1,x=>x % 2+pop n (x / 2)
theorem pop_le : ∀ n x,pop n x≤n
 | 0,_=>Nat.le_refl _
 | n+1,x=>by
  have:=pop_le n (x / 2)
  simp only [pop]
  omega
theorem pop_add : ∀ m n x,pop (m+n) x=pop m x+pop n (x / 2 ^ m)
 | 0,n,x=>by simp [pop]
 | m+1,n,x=>by
  rw [Nat.add_right_comm]
  simp only [pop]
  rw [pop_add m n (x / 2),Nat.div_div_eq_div_mul,Nat.pow_succ,Nat.mul_comm 2 (2 ^ m)]
  omega
theorem pop_succ (n x : Nat) : pop (n+1) x=pop n x+x / 2 ^ n % 2:=by
 rw [pop_add n 1 x]
 simp [pop]
theorem and_step (k x lo m : Nat) (h : lo<2 ^ k) : x &&& (lo+2 ^ k * m)=(x % 2 ^ k &&& lo)+2 ^ k * (x / 2 ^ k &&& m):=by
 have h1 : (x &&& (lo+2 ^ k * m)) % 2 ^ k=x % 2 ^ k &&& lo:=by
  rw [Nat.and_mod_two_pow,Nat.add_mul_mod_self_left,Nat.mod_eq_of_lt h]
 have h2 : (x &&& (lo+2 ^ k * m)) / 2 ^ k=x / 2 ^ k &&& m:=by
  rw [Nat.and_div_two_pow,Nat.add_mul_div_left _ _ (Nat.two_pow_pos k),Nat.div_eq_of_lt h,Nat.zero_add]
 rw [← h1,← h2]
 exact (Nat.mod_add_div _ _).symm
theorem and_low (s x : Nat) : x &&& (2 ^ s - 1)=x % 2 ^ s:=Nat.and_two_pow_sub_one_eq_mod x s
def mask1 : Nat→Nat
 | 0=>0
 | n+1=>1+2 ^ 2 * mask1 n
def mask2 : Nat→Nat
 | 0=>0
 | n+1=>3+2 ^ 4 * mask2 n
def mask4 : Nat→Nat
 | 0=>0
 | n+1=>15+2 ^ 8 * mask4 n
def sum1 : Nat→Nat→Nat
 | 0,_=>0
 | n+1,x=>(x % 2+x / 2 % 2)+4 * sum1 n (x / 4)
def sum2 : Nat→Nat→Nat
 | 0,_=>0
 | n+1,x=>pop 4 x+16 * sum2 n (x / 16)
def sum4 : Nat→Nat→Nat
 | 0,_=>0
 | n+1,x=>pop 8 x+256 * sum4 n (x / 256)
theorem step1 : ∀ n x,(x / 2 &&& mask1 n)+(x &&& mask1 n)=sum1 n x
 | 0,x=>by simp [mask1,sum1]
 | n+1,x=>by
  have ih:=step1 n (x / 4)
  simp only [mask1,sum1]
  rw [and_step 2 (x / 2) 1 _ (by decide),and_step 2 x 1 _ (by decide)]
  have a1 : x / 2 % 2 ^ 2 &&& 1=x / 2 % 2:=by
   rw [show (1 : Nat)=2 ^ 1 - 1 from rfl,and_low]; omega
  have a2 : x % 2 ^ 2 &&& 1=x % 2:=by
   rw [show (1 : Nat)=2 ^ 1 - 1 from rfl,and_low]; omega
  have e1 : x / 2 / 2 ^ 2=x / 4 / 2:=by omega
  have e2 : x / 2 ^ 2=x / 4:=by omega
  rw [a1,a2,e1,e2]
  omega
theorem sum1_two (n x : Nat) : sum1 (n+1+1) x=(x % 2+x / 2 % 2)+4 * (x / 4 % 2+x / 8 % 2)+16 * sum1 n (x / 16):=by
 simp only [sum1]
 have e : x / 4 / 4=x / 16:=by omega
 have e3 : x / 4 / 2=x / 8:=by omega
 rw [e,e3]
 omega
theorem pop4 (x : Nat) : pop 4 x=x % 2+x / 2 % 2+(x / 4 % 2+x / 8 % 2):=by
 simp only [pop]
 have e2 : x / 2 / 2=x / 4:=by omega
 have e3 : x / 4 / 2=x / 8:=by omega
 rw [e2,e3]
 omega
theorem step2 : ∀ n x,(sum1 (2 * n) x / 4 &&& mask2 n)+(sum1 (2 * n) x &&& mask2 n)=sum2 n x
 | 0,x=>by simp [mask2,sum2]
 | n+1,x=>by
  have ih:=step2 n (x / 16)
  have e : 2 * (n+1)=2 * n+1+1:=by omega
  rw [e,sum1_two]
  simp only [mask2,sum2]
  rw [pop4]
  generalize sum1 (2 * n) (x / 16)=Y at *
  generalize hp0 : x % 2+x / 2 % 2=p0
  generalize hp1 : x / 4 % 2+x / 8 % 2=p1
  have b0 : p0≤2:=by omega
  have b1 : p1≤2:=by omega
  rw [and_step 4 _ 3 _ (by decide),and_step 4 _ 3 _ (by decide)]
  have a1 : (p0+4 * p1+16 * Y) / 4 % 2 ^ 4 &&& 3=p1:=by
   rw [show (3 : Nat)=2 ^ 2 - 1 from rfl,and_low]; omega
  have a2 : (p0+4 * p1+16 * Y) % 2 ^ 4 &&& 3=p0:=by
   rw [show (3 : Nat)=2 ^ 2 - 1 from rfl,and_low]; omega
  have e1 : (p0+4 * p1+16 * Y) / 4 / 2 ^ 4=Y / 4:=by omega
  have e2 : (p0+4 * p1+16 * Y) / 2 ^ 4=Y:=by omega
  rw [a1,a2,e1,e2]
  omega
theorem sum2_two (n x : Nat) : sum2 (n+1+1) x=pop 4 x+16 * pop 4 (x / 16)+256 * sum2 n (x / 256):=by
 simp only [sum2]
 have e : x / 16 / 16=x / 256:=by omega
 rw [e]
 omega
theorem pop8 (x : Nat) : pop 8 x=pop 4 x+pop 4 (x / 16):=by
 have:=pop_add 4 4 x
 simpa using this
theorem sum2_low : ∀ n x,sum2 n x % 16≤4
 | 0,_=>by simp [sum2]
 | n+1,x=>by
  have:=pop_le 4 x
  simp only [sum2]
  omega
theorem step4 : ∀ n x,(sum2 (2 * n) x / 16+sum2 (2 * n) x) &&& mask4 n=sum4 n x
 | 0,x=>by simp [mask4,sum4]
 | n+1,x=>by
  have ih:=step4 n (x / 256)
  have e : 2 * (n+1)=2 * n+1+1:=by omega
  rw [e,sum2_two]
  simp only [mask4,sum4]
  rw [pop8]
  have hY:=sum2_low (2 * n) (x / 256)
  generalize sum2 (2 * n) (x / 256)=Y at *
  have b0:=pop_le 4 x
  have b1:=pop_le 4 (x / 16)
  generalize pop 4 x=p0 at *
  generalize pop 4 (x / 16)=p1 at *
  rw [and_step 8 _ 15 _ (by decide)]
  have a1 : ((p0+16 * p1+256 * Y) / 16+(p0+16 * p1+256 * Y)) % 2 ^ 8 &&& 15=p0+p1:=by
   rw [show (15 : Nat)=2 ^ 4 - 1 from rfl,and_low]; omega
  have e1 : ((p0+16 * p1+256 * Y) / 16+(p0+16 * p1+256 * Y)) / 2 ^ 8=Y / 16+Y:=by omega
  rw [a1,e1,ih]
theorem sum1_lt : ∀ n x,sum1 n x<4 ^ n
 | 0,_=>by simp [sum1]
 | n+1,x=>by
  have:=sum1_lt n (x / 4)
  simp only [sum1,Nat.pow_succ]
  omega
theorem sum2_lt : ∀ n x,sum2 n x * 15+4≤4 * 16 ^ n
 | 0,_=>by simp [sum2]
 | n+1,x=>by
  have:=sum2_lt n (x / 16)
  have:=pop_le 4 x
  simp only [sum2,Nat.pow_succ]
  omega
theorem sum4_eight (x : Nat) : ∃ p0 p1 p2 p3 p4 p5 p6 p7,p0≤8∧p1≤8∧p2≤8∧p3≤8∧p4≤8∧p5≤8∧p6≤8∧p7≤8 ∧
  sum4 8 x=p0+256 * (p1+256 * (p2+256 * (p3+256 * (p4+256 * (p5+256 * (p6+256 * p7))))))∧pop 64 x=p0+p1+p2+p3+p4+p5+p6+p7:=by
 refine ⟨pop 8 x,pop 8 (x / 256),pop 8 (x / 256 / 256),pop 8 (x / 256 / 256 / 256),pop 8 (x / 256 / 256 / 256 / 256),pop 8 (x / 256 / 256 / 256 / 256 / 256),pop 8 (x / 256 / 256 / 256 / 256 / 256 / 256),pop 8 (x / 256 / 256 / 256 / 256 / 256 / 256 / 256),pop_le _ _,pop_le _ _,pop_le _ _,pop_le _ _,pop_le _ _,pop_le _ _,pop_le _ _,pop_le _ _,by simp [sum4],?_⟩
 rw [show (64 : Nat)=8+(8+(8+(8+(8+(8+(8+8)))))) from rfl]
 simp only [pop_add,show (2 : Nat) ^ 8=256 from rfl]
 omega
theorem div_of (a b c : Nat) (h : a<c) : (a+c * b) / c=b:=by
 rw [Nat.add_mul_div_left _ _ (by omega),Nat.div_eq_of_lt h,Nat.zero_add]
theorem fold_a (a b c y : Nat) (h : a<c) (e : y=a+c * b) : y+y / c=(a+b)+c * b:=by
 rw [e,div_of a b c h]; omega
theorem fold_id1 (p0 p1 p2 p3 p4 p5 p6 p7 : Nat) : p0+(p1+256 * (p2+256 * (p3+256 * (p4+256 * (p5+256 * (p6+256 * p7))))))+256 * (p1+256 * (p2+256 * (p3+256 * (p4+256 * (p5+256 * (p6+256 * p7)))))) =
  (p0+p1+256 * (p1+p2))+65536 * ((p2+p3)+256 * (p3+p4)+65536 * (p4+p5)+16777216 * (p5+p6)+4294967296 * (p6+p7)+1099511627776 * p7):=by omega
theorem fold_id2 (p0 p1 p2 p3 p4 p5 p6 p7 : Nat) : (p0+p1+256 * (p1+p2))+((p2+p3)+256 * (p3+p4)+65536 * (p4+p5)+16777216 * (p5+p6)+4294967296 * (p6+p7)+1099511627776 * p7)+65536 * ((p2+p3)+256 * (p3+p4)+65536 * (p4+p5)+16777216 * (p5+p6)+4294967296 * (p6+p7)+1099511627776 * p7) =
  ((p0+p1+p2+p3)+256 * (p1+p2+p3+p4)+65536 * (p2+p3+p4+p5)+16777216 * (p3+p4+p5+p6))+4294967296 * ((p4+p5+p6+p7)+256 * (p5+p6+p7)+65536 * (p6+p7)+16777216 * p7):=by omega
theorem fold_id3 (p0 p1 p2 p3 p4 p5 p6 p7 X : Nat) : ((p0+p1+p2+p3)+256 * (p1+p2+p3+p4)+65536 * (p2+p3+p4+p5)+16777216 * (p3+p4+p5+p6))+((p4+p5+p6+p7)+256 * (p5+p6+p7)+65536 * (p6+p7)+16777216 * p7)+4294967296 * X =
  (p0+p1+p2+p3+p4+p5+p6+p7)+128 * (2 * ((p1+p2+p3+p4)+(p5+p6+p7)+256 * ((p2+p3+p4+p5)+(p6+p7))+65536 * (p3+p4+p5+p6+p7)+16777216 * X)):=by omega
theorem fold8 (x : Nat) : ∃ y1 y2 y3 : Nat,y1=sum4 8 x+sum4 8 x / 256∧y2=y1+y1 / 65536∧y3=y2+y2 / 4294967296 ∧
  y1<18446744073709551616∧y2<18446744073709551616∧y3<18446744073709551616∧y3 % 128=pop 64 x:=by
 obtain ⟨p0,p1,p2,p3,p4,p5,p6,p7,b0,b1,b2,b3,b4,b5,b6,b7,e,ep⟩:=sum4_eight x
 have g1:=fold_a p0 _ 256 _ (by omega) e
 rw [fold_id1] at g1
 have g2:=fold_a _ _ 65536 _ (by omega) g1
 rw [fold_id2] at g2
 have g3:=fold_a _ _ 4294967296 _ (by omega) g2
 refine ⟨_,_,_,rfl,rfl,rfl,?_,?_,?_,?_⟩
 ·rw [g1]; clear g1 g2 g3 e ep; omega
 ·rw [g2]; clear g1 g2 g3 e ep; omega
 ·rw [g3]; clear g1 g2 g3 e ep; omega
 ·rw [g3,fold_id3,ep]
  clear g1 g2 g3 e ep
  rw [Nat.add_mul_mod_self_left]
  exact Nat.mod_eq_of_lt (by omega)
theorem masks : mask1 32=6148914691236517205∧mask2 16=3689348814741910323∧mask4 8=1085102592571150095:=by decide
theorem testBit_div (b i : Nat) : b.testBit i=decide (b / 2 ^ i % 2=1):=by
 rw [Nat.testBit_eq_decide_div_mod_eq]
theorem bit_toNat (b i : Nat) : b / 2 ^ i % 2=(b.testBit i).toNat:=by
 rw [testBit_div]
 by_cases h : b / 2 ^ i % 2=1
 ·simp [h]
 ·simp [h]; omega
def has (b : Nat) (i : Int) : Bool:=decide (0≤i) && (decide (i<64) && b.testBit i.toNat)
def cut (i : Int) : Nat:=if i≤0 then 0 else if 64≤i then 64 else i.toNat
def position (b : Nat) (i : Int) : Nat:=pop (cut i) b
def withE (b : Nat) (i : Int) : Nat:=if 0≤i∧i<64 then b ||| 2 ^ i.toNat else b
def withoutE (b : Nat) (i : Int) : Nat:=if has b i=true then b - 2 ^ i.toNat else b
def indicesTo (n b : Nat) : List Nat:=(List.range n).filter fun i=>b.testBit i
def indices (b : Nat) : List Nat:=indicesTo 64 b
def at_ (b : Nat) (p : Int) : Int:=if 0≤p∧p<(indices b).length then ((indices b).getD p.toNat 0 : Nat) else -1
theorem pop_testBit (n b : Nat) : pop (n+1) b=pop n b+(b.testBit n).toNat:=by
 rw [pop_succ,bit_toNat]
theorem testBit_sub_pow (b i j : Nat) (h : b.testBit i=true) : (b - 2 ^ i).testBit j=(b.testBit j && !decide (i=j)):=by
 have h1 : b / 2 ^ i % 2=1:=by rw [Nat.testBit_eq_decide_div_mod_eq] at h; simpa using h
 have hr : b % 2 ^ i<2 ^ i:=Nat.mod_lt _ (Nat.two_pow_pos i)
 obtain ⟨q,hq⟩ : ∃ q,b / 2 ^ i=2 * q+1 :=⟨b / 2 ^ i / 2,by omega⟩
 have hb : b=2 ^ i * (2 * q+1)+b % 2 ^ i:=by rw [← hq]; exact (Nat.div_add_mod b (2 ^ i)).symm
 generalize b % 2 ^ i=r at *
 have e : b - 2 ^ i=2 ^ i * (2 * q)+r:=by rw [hb,Nat.mul_add]; omega
 rw [e]
 conv=>rhs; rw [hb]
 rw [Nat.testBit_two_pow_mul_add _ hr,Nat.testBit_two_pow_mul_add _ hr]
 by_cases hj : j<i
 ·have : ¬ i=j:=by omega
  simp [hj,this]
 ·by_cases hij : i=j
  ·subst hij; simp [Nat.testBit_zero]
  ·obtain ⟨d,rfl⟩ : ∃ d,j=i+(d+1) :=⟨j - i - 1,by omega⟩
   have e3 : i+(d+1) - i=d+1:=by omega
   rw [if_neg hj,if_neg hj,e3,Nat.testBit_succ,Nat.testBit_succ]
   have d1 : (2 * q+1) / 2=q:=by omega
   have d2 : 2 * q / 2=q:=by omega
   rw [d1,d2]
   simp
def andNot (a m : Nat) : Nat:=a ^^^ (a &&& m)
theorem testBit_andNot (a m j : Nat) : (andNot a m).testBit j=(a.testBit j && !m.testBit j):=by
 unfold andNot
 rw [Nat.testBit_xor,Nat.testBit_and]
 cases a.testBit j <;> cases m.testBit j <;> rfl
theorem andNot_pow (b i : Nat) : andNot b (2 ^ i)=if b.testBit i then b - 2 ^ i else b:=by
 apply Nat.eq_of_testBit_eq
 intro j
 rw [testBit_andNot,Nat.testBit_two_pow]
 by_cases h : b.testBit i=true
 ·rw [if_pos h,testBit_sub_pow b i j h]
 ·rw [if_neg h]
  by_cases hij : i=j
  ·subst hij; simp at h; simp [h]
  ·simp [hij]
def drop : Nat→Nat→Nat
 | 0,x=>x
 | k+1,x=>drop k x &&& (drop k x - 1)
theorem pop_none (b : Nat) : pop 0 b=0:=rfl
theorem withE_lt (b : Nat) (i : Int) (h : b<18446744073709551616) : withE b i<18446744073709551616:=by
 unfold withE
 split
 ·rename_i hi
  have : 2 ^ i.toNat<2 ^ 64:=Nat.pow_lt_pow_right (by decide) (by omega)
  have:=Nat.or_lt_two_pow (n:=64) (x:=b) (y:=2 ^ i.toNat) (by simpa using h) this
  simpa using this
 ·exact h
theorem withoutE_lt (b : Nat) (i : Int) (h : b<18446744073709551616) : withoutE b i<18446744073709551616:=by
 unfold withoutE; split
 ·exact Nat.lt_of_le_of_lt (Nat.sub_le _ _) h
 ·exact h
theorem testBit_withE (b : Nat) (x : Nat) (hx : x<64) (j : Nat) : (withE b (x : Int)).testBit j=(b.testBit j || decide (x=j)):=by
 unfold withE
 rw [if_pos (by omega),Nat.testBit_or,Int.toNat_natCast,Nat.testBit_two_pow]
theorem testBit_withoutE (b : Nat) (x : Nat) (hx : x<64) (j : Nat) : (withoutE b (x : Int)).testBit j=(b.testBit j && !decide (x=j)):=by
 have e : withoutE b (x : Int)=andNot b (2 ^ x):=by
  have h1 : (x : Int)<64:=by omega
  rw [andNot_pow]; unfold withoutE has; simp [h1]
 rw [e,testBit_andNot,Nat.testBit_two_pow]
theorem has_nat (b x : Nat) (hx : x<64) : has b (x : Int)=b.testBit x:=by
 have h1 : (x : Int)<64:=by omega
 unfold has; simp [h1]
theorem has_withE (b x y : Nat) (hx : x<64) (hy : y<64) : has (withE b x) y=(has b y || decide (x=y)):=by
 rw [has_nat _ _ hy,has_nat _ _ hy,testBit_withE b x hx]
theorem with_without (b x : Nat) (hx : x<64) : withE (withoutE b x) x=withE b x:=by
 apply Nat.eq_of_testBit_eq
 intro j
 rw [testBit_withE _ x hx,testBit_withoutE _ x hx,testBit_withE _ x hx]
 by_cases h : x=j <;> simp [h]
theorem pop_withE (b x : Nat) (hx : x<64) : ∀ y,pop y (withE b x)=pop y b+if x<y∧b.testBit x=false then 1 else 0
 | 0=>by rw [pop,pop]; simp
 | y+1=>by
  rw [pop_testBit,pop_testBit,pop_withE b x hx y,testBit_withE b x hx]
  by_cases hb : b.testBit x=true
  ·have : (b.testBit y || decide (x=y))=b.testBit y:=by
    by_cases h : x=y
    ·subst h; simp [hb]
    ·simp [h]
   simp [hb,this]
  ·have hb' : b.testBit x=false:=by simpa using hb
   by_cases h : x=y
   ·subst h; simp [hb']
   ·simp only [hb',h,decide_false,Bool.or_false,and_true]
    by_cases h2 : x<y
    ·rw [if_pos h2,if_pos (by omega)]; omega
    ·rw [if_neg h2,if_neg (by omega)]; omega
theorem position_all (b : Nat) : position b 64=pop 64 b:=rfl
attribute [irreducible] pop indicesTo drop
end Go.Bm
end
section
namespace Go.Ct
structure Pair where
 key : ByteArray
 value : Nat
 deriving DecidableEq
structure Node where
 kind : Int:=0
 gen : Int:=0
 main : Int:=0
 bitmap : Nat:=0
 branches : List Int:=[]
 hash : Nat:=0
 key : ByteArray:=.empty
 value : Nat:=0
 pairs : List Pair:=[]
 prev : Int:=0
 old : Int:=0
 expected : Int:=0
 new : Int:=0
 status : Int:=0
 deriving DecidableEq
structure St where
 added : List Node:=[]
 cells : List Int:=[]
 gen : Nat:=0
 acc : Nat:=0
def Node.isMain (n : Node) : Bool:=n.kind==3 || n.kind==5 || n.kind==6
def St.nodes (s : St) : Nat:=2+s.added.length
def St.size (s : St) : Nat:=s.added.length+s.cells.length+s.gen+s.acc
def St.Room (s : St) : Prop:=s.size+100≤274877906944
def St.newCell (s : St) (initial : Int) : St × Int:=({ s with cells:=s.cells ++ [initial] },s.cells.length+1)
def St.newGen (s : St) : St × Int:=({ s with gen:=s.gen+1 },s.gen+1)
def Node.bare (n : Node) : Node:={ n with main:=0,prev:=0,status:=0 }
def St.alloc (s : St) (n : Node) (initial : Int) : St × Int :=
 let c : Int:=s.cells.length+1
 let s1 : St:=if n.kind==2 || n.isMain || n.kind==8 then (s.newCell initial).1 else s
 let n1 : Node:=if n.kind==2 then { n.bare with main:=c } else if n.isMain then { n.bare with prev:=c } else if n.kind==8 then { n.bare with status:=c } else n.bare
 ({ s1 with added:=s1.added ++ [n1] },s.added.length+3)
def St.hasCell (s : St) (c : Int) : Bool:=decide (1≤c) && decide (c≤s.cells.length)
def St.load (s : St) (c : Int) : St × Int:=({ s with acc:=s.acc+1 },if s.hasCell c then s.cells.getD (c.toNat - 1) 0 else 0)
def St.swaps (s : St) (c old : Int) : Bool:=s.hasCell c && s.cells.getD (c.toNat - 1) 0==old
def St.cas (s : St) (c old new : Int) : St × Bool :=
 ({ s with acc:=s.acc+1,cells:=if s.swaps c old then s.cells.set (c.toNat - 1) new else s.cells },s.swaps c old)
def markNode : Node:={ kind:=1 }
def St.node (s : St) (r : Int) : Node :=
 if r<1∨s.nodes<r then {} else if r≤2 then markNode else s.added.getD (r.toNat - 3) {}
structure Trie where
 root : Int:=0
 readOnly : Bool:=false
 deriving DecidableEq
structure Result where
 err : Int:=0
 found : Bool:=false
 value : Nat:=0
 key : ByteArray:=.empty
 count : Int:=0
 ref : Int:=0
 trie : Trie:={}
 deriving DecidableEq
end Go.Ct
end
section
namespace Go.Ct
def fnvStep (h : Nat) (b : UInt8) : Nat:=((h ^^^ b.toNat) * 1099511628211) % 18446744073709551616
def fnv (key : List UInt8) : Nat:=key.foldl fnvStep 14695981039346656037
def hashOf (key : ByteArray) (mask : Nat) : Nat:=fnv key.data.toList &&& mask
def keyValid (key : ByteArray) : Bool:=decide (key.size≤64)
def slice (h : Nat) (level : Int) : Int:=if level<0∨10<level then 0 else ((h / 64 ^ level.toNat % 64 : Nat) : Int)
def common (h k : Nat) : Nat→Nat→Nat
 | 0,l=>l
 | n+1,l=>if slice h l=slice k l then common h k n (l+1) else l
def commonOf (h k : Nat) : Nat:=common h k 11 0
def keyLt (a b : ByteArray) : Bool:=Op.bytesLess a.toList b.toList
def keyEq (a b : ByteArray) : Bool:=a.toList==b.toList
def pairsValid : List Pair→Bool
 | a::b::l=>keyLt a.key b.key && pairsValid (b::l)
 | _=>true
def pbelow : List Pair→ByteArray→Nat
 | [],_=>0
 | q::l,key=>if keyLt q.key key then pbelow l key+1 else 0
def pat (l : List Pair) (i : Nat) : Pair:=l.getD i ⟨.empty,0⟩
def phas (l : List Pair) (key : ByteArray) : Bool:=decide (pbelow l key<l.length) && keyEq (pat l (pbelow l key)).key key
def pfind (l : List Pair) (key : ByteArray) : Nat × Bool:=if pairsValid l && phas l key then ((pat l (pbelow l key)).value,true) else (0,false)
def pput (l : List Pair) (key : ByteArray) (v : Nat) : List Pair :=
 if pairsValid l=false then []
 else if phas l key then l.take (pbelow l key) ++ ⟨(pat l (pbelow l key)).key,v⟩::l.drop (pbelow l key+1)
 else l.take (pbelow l key) ++ ⟨key,v⟩::l.drop (pbelow l key)
def pdrop (l : List Pair) (key : ByteArray) : List Pair :=
 if pairsValid l=false then [] else if phas l key then l.take (pbelow l key) ++ l.drop (pbelow l key+1) else l
def pof2 (a b : Pair) : List Pair:=if keyLt b.key a.key then [b,a] else [a,b]
def pairEq (a b : Pair) : Bool:=keyEq a.key b.key && a.value==b.value
def pairsEq : List Pair→List Pair→Bool
 | [],[]=>true
 | a::l,b::k=>pairEq a b && pairsEq l k
 | _,_=>false
def Node.only (n : Node) : Node :=
 if n.kind=1 then { kind:=n.kind }
 else if n.kind=2 then { kind:=n.kind,gen:=n.gen,main:=n.main }
 else if n.kind=3 then { kind:=n.kind,bitmap:=n.bitmap,branches:=n.branches,prev:=n.prev }
 else if n.kind=4 then { kind:=n.kind,hash:=n.hash,key:=n.key,value:=n.value }
 else if n.kind=5 then { kind:=n.kind,hash:=n.hash,key:=n.key,value:=n.value,prev:=n.prev }
 else if n.kind=6 then { kind:=n.kind,hash:=n.hash,pairs:=n.pairs,prev:=n.prev }
 else if n.kind=7 then { kind:=n.kind,old:=n.old }
 else if n.kind=8 then { kind:=n.kind,old:=n.old,expected:=n.expected,new:=n.new,status:=n.status }
 else { kind:=n.kind }
def nodeEq (a b : Node) : Bool :=
 a.kind==b.kind && a.gen==b.gen && a.main==b.main && a.bitmap==b.bitmap && a.hash==b.hash && keyEq a.key b.key && a.value==b.value &&
 (a.branches==b.branches && (pairsEq a.pairs b.pairs && (a.prev==b.prev && (a.old==b.old && (a.expected==b.expected && (a.new==b.new && a.status==b.status))))))
def keysShort (l : List Pair) : Bool:=l.all fun p=>decide (p.key.size≤64)
def Node.valid (n : Node) : Bool :=
 if n.kind<1∨8<n.kind∨nodeEq n n.only=false∨n.main<0∨n.prev<0∨n.status<0 then false
 else if n.kind=2 then decide (1≤n.gen)
 else if n.kind=3 then (n.branches.all fun b=>decide (1≤b)) && n.branches.length==Bm.pop 64 n.bitmap
 else if n.kind=4∨n.kind=5 then decide (n.key.size≤64)
 else if n.kind=6 then decide (2≤n.pairs.length) && (pairsValid n.pairs && keysShort n.pairs)
 else if n.kind=7 then decide (1≤n.old)
 else if n.kind=8 then decide (1≤n.old) && (decide (1≤n.expected) && decide (1≤n.new))
 else true
def Node.isC (c : Node) : Bool:=c.kind==3 && c.valid
def blookup (c : Node) (i : Int) : Int × Bool:=if c.isC=false∨Bm.has c.bitmap i=false then (0,false) else (c.branches.getD (Bm.position c.bitmap i) 0,true)
def pinserted (c : Node) (i r : Int) : Node × Bool :=
 if c.isC=false∨i<0∨63<i∨r<1∨Bm.has c.bitmap i=true then ({},false)
 else ({ kind:=3,bitmap:=Bm.withE c.bitmap i,branches:=c.branches.take (Bm.position c.bitmap i) ++ r::c.branches.drop (Bm.position c.bitmap i) },true)
def pupdated (c : Node) (i r : Int) : Node × Bool :=
 if c.isC=false∨i<0∨63<i∨r<1∨Bm.has c.bitmap i=false then ({},false)
 else ({ kind:=3,bitmap:=c.bitmap,branches:=c.branches.take (Bm.position c.bitmap i) ++ r::c.branches.drop (Bm.position c.bitmap i+1) },true)
def premoved (c : Node) (i : Int) : Node × Bool :=
 if c.isC=false∨i<0∨63<i∨Bm.has c.bitmap i=false then ({},false)
 else ({ kind:=3,bitmap:=Bm.withoutE c.bitmap i,branches:=c.branches.take (Bm.position c.bitmap i) ++ c.branches.drop (Bm.position c.bitmap i+1) },true)
def bsole (c : Node) : Int × Bool:=if c.isC=false∨c.branches.length≠1 then (0,false) else (c.branches.getD 0 0,true)
def tombOf (n : Node) : Node:={ kind:=5,hash:=n.hash,key:=n.key,value:=n.value }
def singleOf (n : Node) : Node:={ kind:=4,hash:=n.hash,key:=n.key,value:=n.value }
def contracted (c : Node) (level : Int) (sole : Node) : Node:=if 0<level∧(bsole c).2=true∧sole.kind=4 then tombOf sole else c
def untombed (t : Node) : Node × Bool:=if t.kind=5 then (singleOf t,true) else ({},false)
def Node.isL (l : Node) : Bool:=l.kind==6 && l.valid
def grown (l : Node) (key : ByteArray) (v : Nat) : Node × Bool:=if l.isL=false∨64<key.size then ({},false) else ({ kind:=6,hash:=l.hash,pairs:=pput l.pairs key v },true)
def shrunk (l : Node) (key : ByteArray) : Node × Bool :=
 if l.isL=false∨(pfind l.pairs key).2=false then ({},false)
 else match pdrop l.pairs key with
  | [p]=>({ kind:=5,hash:=l.hash,key:=p.key,value:=p.value },true)
  | rest=>({ kind:=6,hash:=l.hash,pairs:=rest },true)
def Node.fits (L : Nat) (n : Node) : Prop :=
 n.branches.length≤1000000∧n.pairs.length≤L+2∧n.bitmap<18446744073709551616∧n.hash<18446744073709551616∧n.key.size≤9223372036854775807∧(∀ p ∈ n.pairs,p.key.size≤9223372036854775807)∧(n.kind=3∨n.kind=6→n.valid=true)
theorem fits_small (L : Nat) (k g o e w : Int) (h : k≠3∧k≠6:=by decide) : Node.fits L { kind:=k,gen:=g,old:=o,expected:=e,new:=w } :=
 ⟨Nat.zero_le _,Nat.zero_le _,by show (0 : Nat)<_; decide,by show (0 : Nat)<_; decide,by show (0 : Nat)≤_; decide,(fun p hp=>by cases hp),fun hk=>absurd hk (by rintro (h1 | h1); exact h.1 h1; exact h.2 h1)⟩
theorem fits_empty (L : Nat) : Node.fits L { kind:=3 } :=
 ⟨Nat.zero_le _,Nat.zero_le _,by show (0 : Nat)<_; decide,by show (0 : Nat)<_; decide,by show (0 : Nat)≤_; decide,(fun p hp=>by cases hp),fun _=>by decide +kernel⟩
theorem Node.fits.mono {L M : Nat} {n : Node} (h : n.fits L) (hLM : L≤M) : n.fits M :=⟨h.1,Nat.le_trans h.2.1 (by omega),h.2.2⟩
theorem keyEq_self (a : ByteArray) : keyEq a a=true:=by unfold keyEq; simp
theorem pairsEq_self : ∀ l : List Pair,pairsEq l l=true
 | []=>rfl
 | a::l=>by rw [pairsEq,pairsEq_self l]; unfold pairEq; rw [keyEq_self]; simp
theorem valid_C (b : Nat) (l : List Int) (c : Int) (hc : 0≤c) : Node.valid { kind:=3,bitmap:=b,branches:=l,prev:=c }=((l.all fun b=>decide (1≤b)) && l.length==Bm.pop 64 b):=by
 have h1 : nodeEq { kind:=3,bitmap:=b,branches:=l,prev:=c } (Node.only { kind:=3,bitmap:=b,branches:=l,prev:=c })=true:=by
  simp [Node.only,nodeEq,keyEq_self,pairsEq]
 unfold Node.valid
 rw [h1]
 simp
 omega
theorem valid_L (h : Nat) (l : List Pair) (c : Int) (hc : 0≤c) : Node.valid { kind:=6,hash:=h,pairs:=l,prev:=c }=(decide (2≤l.length) && (pairsValid l && keysShort l)):=by
 have h1 : nodeEq { kind:=6,hash:=h,pairs:=l,prev:=c } (Node.only { kind:=6,hash:=h,pairs:=l,prev:=c })=true:=by
  simp [Node.only,nodeEq,keyEq_self,pairsEq_self]
 unfold Node.valid
 rw [h1]
 simp
 omega
theorem valid_prev (n : Node) (c : Int) (hc : 0≤c) (hk : n.kind=3∨n.kind=6) (h : n.valid=true) : ({ n.bare with prev:=c } : Node).valid=true:=by
 have hp:=pairsEq_self n.pairs
 rcases hk with hk | hk <;>
 ·unfold Node.valid at h ⊢
  simp only [Node.bare,Node.only,nodeEq,hk] at h ⊢
  simp at h ⊢
  simp_all
  try omega
theorem valid3 {n : Node} (hk : n.kind=3) (h : n.valid=true) : nodeEq n { kind:=3,bitmap:=n.bitmap,branches:=n.branches,prev:=n.prev }=true∧n.main=0∧0≤n.prev∧n.status=0∧(n.branches.all fun b=>decide (1≤b))=true∧n.branches.length=Bm.pop 64 n.bitmap:=by
 unfold Node.valid at h
 by_cases hc : n.kind<1∨8<n.kind∨nodeEq n n.only=false∨n.main<0∨n.prev<0∨n.status<0
 ·rw [if_pos hc] at h; cases h
 ·rw [if_neg hc,if_neg (by omega),if_pos hk,Bool.and_eq_true] at h
  have ho : n.only={ kind:=3,bitmap:=n.bitmap,branches:=n.branches,prev:=n.prev }:=by unfold Node.only; simp [hk]
  have hq : nodeEq n n.only=true:=by
   cases hq : nodeEq n n.only with
   | true=>rfl
   | false=>exact absurd (.inr (.inr (.inl hq))) hc
  rw [ho] at hq
  have hq':=hq
  unfold nodeEq at hq'
  simp only [Bool.and_eq_true,beq_iff_eq] at hq'
  exact ⟨hq,hq'.1.1.1.1.1.2,by omega,hq'.2.2.2.2.2.2.2,h.1,by simpa using h.2⟩
theorem valid6 {n : Node} (hk : n.kind=6) (h : n.valid=true) : nodeEq n { kind:=6,hash:=n.hash,pairs:=n.pairs,prev:=n.prev }=true∧n.main=0∧0≤n.prev∧n.status=0∧2≤n.pairs.length∧pairsValid n.pairs=true∧keysShort n.pairs=true:=by
 unfold Node.valid at h
 by_cases hc : n.kind<1∨8<n.kind∨nodeEq n n.only=false∨n.main<0∨n.prev<0∨n.status<0
 ·rw [if_pos hc] at h; cases h
 ·rw [if_neg hc,if_neg (by omega),if_neg (by omega),if_neg (by omega),if_pos hk,Bool.and_eq_true,Bool.and_eq_true] at h
  have ho : n.only={ kind:=6,hash:=n.hash,pairs:=n.pairs,prev:=n.prev }:=by unfold Node.only; simp [hk]
  have hq : nodeEq n n.only=true:=by
   cases hq : nodeEq n n.only with
   | true=>rfl
   | false=>exact absurd (.inr (.inr (.inl hq))) hc
  rw [ho] at hq
  have hq':=hq
  unfold nodeEq at hq'
  simp only [Bool.and_eq_true,beq_iff_eq] at hq'
  exact ⟨hq,hq'.1.1.1.1.1.2,by omega,hq'.2.2.2.2.2.2.2,by simpa using h.1,h.2.1,h.2.2⟩
end Go.Ct
end
section
namespace Go.Ct
structure Acc where
 kind : Int:=0
 cell : Int:=0
 old : Int:=0
 new : Int:=0
 deriving DecidableEq
structure Ent where
 thread : Int:=0
 acc : Acc:={}
 loaded : Int:=0
 swapped : Bool:=false
 deriving DecidableEq
end Go.Ct
namespace Go.Ct
end Go.Ct
namespace Go.Ct
end Go.Ct
end
section
namespace Go.Ct
inductive I (α : Type) where
 | ret (a : α)
 | load (c : Int) (k : Int→I α)
 | cas (c old new : Int) (k : Bool→I α)
 | alloc (n : Node) (i : Int) (k : Int→I α)
 | cell (i : Int) (k : Int→I α)
 | gen (k : Int→I α)
 | node (r : Int) (k : Node→I α)
def I.bind {α β : Type} : I α→(α→I β)→I β
 | .ret a,f=>f a
 | .load c k,f=>.load c fun v=>(k v).bind f
 | .cas c o n k,f=>.cas c o n fun v=>(k v).bind f
 | .alloc n i k,f=>.alloc n i fun v=>(k v).bind f
 | .cell i k,f=>.cell i fun v=>(k v).bind f
 | .gen k,f=>.gen fun v=>(k v).bind f
 | .node r k,f=>.node r fun v=>(k v).bind f
structure Frame where
 c : Int:=0
 k : Int:=0
 deriving DecidableEq
structure Walk where
 started : Bool:=false
 stack : List Frame:=[]
 wait : List Pair:=[]
 deriving DecidableEq
structure Call where
 kind : Int:=0
 trie : Trie:={}
 a : Int:=0
 b : Int:=0
 n : Int:=0
 index : Int:=0
 hash : Nat:=0
 mask : Nat:=0
 key : ByteArray:=.empty
 value : Nat:=0
 expect : Nat:=0
 policy : Int:=0
 only : Bool:=false
 walk : Walk:={}
 answer : Result:={}
 deriving DecidableEq
structure Ex where
 call : Call:={}
 got : List Int:=[]
 made : List Int:=[]
 cells : List Int:=[]
 gens : List Int:=[]
 a : Nat:=0
 m : Nat:=0
 c : Nat:=0
 g : Nat:=0
 free : Nat:=0
 stopped : Bool:=false
 next : Acc:={}
 done : Bool:=false
 result : Result:={}
 walk : Walk:={}
structure X where
 e : Ex
 s : St
def X.node (x : X) (r : Int) : Node:=x.s.node r
def bint (b : Bool) : Int:=if b then 1 else 0
def stopX (want : Acc) (x : X) : X:={ x with e:={ x.e with stopped:=true,next:=want } }
def oldX (x : X) : X:={ x with e:={ x.e with a:=x.e.a+1 } }
def newX (v : Int) (s : St) (x : X) : X:={ e:={ x.e with free:=x.e.free - 1,got:=x.e.got ++ [v],a:=x.e.a+1 },s:=s }
def loadR (c : Int) (x : X) : X × Option Int :=
 if x.e.stopped=true then (x,none)
 else if x.e.a<x.e.got.length then (oldX x,some (x.e.got.getD x.e.a 0))
 else if x.e.free=0 then (stopX ⟨1,c,0,0⟩ x,none)
 else (newX (x.s.load c).2 (x.s.load c).1 x,some (x.s.load c).2)
def casR (c old new : Int) (x : X) : X × Option Bool :=
 if x.e.stopped=true then (x,none)
 else if x.e.a<x.e.got.length then (oldX x,some (x.e.got.getD x.e.a 0==1))
 else if x.e.free=0 then (stopX ⟨2,c,old,new⟩ x,none)
 else (newX (bint (x.s.cas c old new).2) (x.s.cas c old new).1 x,some (x.s.cas c old new).2)
def allocR (n : Node) (i : Int) (x : X) : X × Option Int :=
 if x.e.stopped=true then (x,none)
 else if x.e.m=x.e.made.length then ({ e:={ x.e with made:=x.e.made ++ [(x.s.alloc n i).2],m:=x.e.m+1 },s:=(x.s.alloc n i).1 },some (x.s.alloc n i).2)
 else ({ x with e:={ x.e with m:=x.e.m+1 } },some (x.e.made.getD x.e.m 0))
def cellR (i : Int) (x : X) : X × Option Int :=
 if x.e.stopped=true then (x,none)
 else if x.e.c=x.e.cells.length then ({ e:={ x.e with cells:=x.e.cells ++ [(x.s.newCell i).2],c:=x.e.c+1 },s:=(x.s.newCell i).1 },some (x.s.newCell i).2)
 else ({ x with e:={ x.e with c:=x.e.c+1 } },some (x.e.cells.getD x.e.c 0))
def genR (x : X) : X × Option Int :=
 if x.e.stopped=true then (x,none)
 else if x.e.g=x.e.gens.length then ({ e:={ x.e with gens:=x.e.gens ++ [x.s.newGen.2],g:=x.e.g+1 },s:=x.s.newGen.1 },some x.s.newGen.2)
 else ({ x with e:={ x.e with g:=x.e.g+1 } },some (x.e.gens.getD x.e.g 0))
def andR {α β : Type} (r : X × Option α) (f : α→X→X × Option β) : X × Option β:=match r with
 | (y,some v)=>f v y
 | (y,none)=>(y,none)
def runI {α : Type} : I α→X→X × Option α
 | .ret a,x=>if x.e.stopped=true then (x,none) else (x,some a)
 | .load c k,x=>andR (loadR c x) fun v y=>runI (k v) y
 | .cas c o n k,x=>andR (casR c o n x) fun v y=>runI (k v) y
 | .alloc n i k,x=>andR (allocR n i x) fun v y=>runI (k v) y
 | .cell i k,x=>andR (cellR i x) fun v y=>runI (k v) y
 | .gen k,x=>andR (genR x) fun v y=>runI (k v) y
 | .node r k,x=>runI (k (x.node r)) x
theorem loadR_ns {c : Int} {x y : X} {v : Int} (h : loadR c x=(y,some v)) : y.e.stopped=false:=by
 unfold loadR at h
 split at h
 ·cases h
 ·rename_i h0
  have h0 : x.e.stopped=false:=by simpa using h0
  split at h
  ·cases h; exact h0
  ·split at h
   ·cases h
   ·cases h; exact h0
theorem casR_ns {c o n : Int} {x y : X} {v : Bool} (h : casR c o n x=(y,some v)) : y.e.stopped=false:=by
 unfold casR at h
 split at h
 ·cases h
 ·rename_i h0
  have h0 : x.e.stopped=false:=by simpa using h0
  split at h
  ·cases h; exact h0
  ·split at h
   ·cases h
   ·cases h; exact h0
theorem allocR_ns {n : Node} {i : Int} {x y : X} {v : Int} (h : allocR n i x=(y,some v)) : y.e.stopped=false:=by
 unfold allocR at h
 split at h
 ·cases h
 ·rename_i h0
  have h0 : x.e.stopped=false:=by simpa using h0
  split at h <;> cases h <;> exact h0
theorem cellR_ns {i : Int} {x y : X} {v : Int} (h : cellR i x=(y,some v)) : y.e.stopped=false:=by
 unfold cellR at h
 split at h
 ·cases h
 ·rename_i h0
  have h0 : x.e.stopped=false:=by simpa using h0
  split at h <;> cases h <;> exact h0
theorem genR_ns {x y : X} {v : Int} (h : genR x=(y,some v)) : y.e.stopped=false:=by
 unfold genR at h
 split at h
 ·cases h
 ·rename_i h0
  have h0 : x.e.stopped=false:=by simpa using h0
  split at h <;> cases h <;> exact h0
theorem loadR_st {c : Int} {x y : X} (h : loadR c x=(y,none)) : y.e.stopped=true:=by
 unfold loadR at h
 split at h
 ·rename_i h0; cases h; exact h0
 ·split at h
  ·cases h
  ·split at h
   ·cases h; rfl
   ·cases h
theorem casR_st {c o n : Int} {x y : X} (h : casR c o n x=(y,none)) : y.e.stopped=true:=by
 unfold casR at h
 split at h
 ·rename_i h0; cases h; exact h0
 ·split at h
  ·cases h
  ·split at h
   ·cases h; rfl
   ·cases h
theorem allocR_st {n : Node} {i : Int} {x y : X} (h : allocR n i x=(y,none)) : y=x∧x.e.stopped=true:=by
 unfold allocR at h
 split at h
 ·rename_i h0; cases h; exact ⟨rfl,h0⟩
 ·split at h <;> cases h
theorem cellR_st {i : Int} {x y : X} (h : cellR i x=(y,none)) : y=x∧x.e.stopped=true:=by
 unfold cellR at h
 split at h
 ·rename_i h0; cases h; exact ⟨rfl,h0⟩
 ·split at h <;> cases h
theorem genR_st {x y : X} (h : genR x=(y,none)) : y=x∧x.e.stopped=true:=by
 unfold genR at h
 split at h
 ·rename_i h0; cases h; exact ⟨rfl,h0⟩
 ·split at h <;> cases h
theorem runI_stopped {α : Type} : ∀ {t : I α} {x : X},x.e.stopped=true→runI t x=(x,none)
 | .ret a,x,h=>by unfold runI; rw [if_pos h]
 | .load c k,x,h=>by unfold runI loadR; rw [if_pos h]; rfl
 | .cas c o n k,x,h=>by unfold runI casR; rw [if_pos h]; rfl
 | .alloc n i k,x,h=>by unfold runI allocR; rw [if_pos h]; rfl
 | .cell i k,x,h=>by unfold runI cellR; rw [if_pos h]; rfl
 | .gen k,x,h=>by unfold runI genR; rw [if_pos h]; rfl
 | .node r k,x,h=>by unfold runI; exact runI_stopped h
theorem andR_and {α β γ : Type} (r : X × Option α) (f : α→X→X × Option β) (g : β→X→X × Option γ) : andR (andR r f) g=andR r fun v y=>andR (f v y) g:=by
 obtain ⟨y,o⟩:=r
 cases o <;> rfl
theorem andR_congr {α β : Type} {r : X × Option α} {f g : α→X→X × Option β} (h : ∀ v y,f v y=g v y) : andR r f=andR r g:=by
 obtain ⟨y,o⟩:=r
 cases o with
 | none=>rfl
 | some v=>exact h v y
theorem runI_bind {α β : Type} : ∀ (t : I α) (f : α→I β) (x : X),runI (t.bind f) x=andR (runI t x) fun v y=>runI (f v) y
 | .ret a,f,x=>by
  unfold I.bind
  by_cases h : x.e.stopped=true
  ·rw [runI_stopped h,runI_stopped h]; rfl
  ·show _=andR (if x.e.stopped=true then (x,none) else (x,some a)) _
   rw [if_neg h]; rfl
 | .load c k,f,x=>by
  show andR (loadR c x) (fun v y=>runI ((k v).bind f) y)=andR (andR (loadR c x) fun v y=>runI (k v) y) _
  rw [andR_and]; exact andR_congr fun v y=>runI_bind (k v) f y
 | .cas c o n k,f,x=>by
  show andR (casR c o n x) (fun v y=>runI ((k v).bind f) y)=andR (andR (casR c o n x) fun v y=>runI (k v) y) _
  rw [andR_and]; exact andR_congr fun v y=>runI_bind (k v) f y
 | .alloc n i k,f,x=>by
  show andR (allocR n i x) (fun v y=>runI ((k v).bind f) y)=andR (andR (allocR n i x) fun v y=>runI (k v) y) _
  rw [andR_and]; exact andR_congr fun v y=>runI_bind (k v) f y
 | .cell i k,f,x=>by
  show andR (cellR i x) (fun v y=>runI ((k v).bind f) y)=andR (andR (cellR i x) fun v y=>runI (k v) y) _
  rw [andR_and]; exact andR_congr fun v y=>runI_bind (k v) f y
 | .gen k,f,x=>by
  show andR (genR x) (fun v y=>runI ((k v).bind f) y)=andR (andR (genR x) fun v y=>runI (k v) y) _
  rw [andR_and]; exact andR_congr fun v y=>runI_bind (k v) f y
 | .node r k,f,x=>runI_bind (k (x.node r)) f x
theorem run_node {α : Type} {r : Int} {k : Node→I α} {x : X} : runI (.node r k) x=runI (k (x.node r)) x:=rfl
theorem run_ret {α : Type} {a : α} {x : X} (h : x.e.stopped=false) : runI (.ret a) x=(x,some a):=by
 unfold runI; rw [if_neg (by rw [h]; decide)]
theorem run_load {α : Type} {c : Int} {k : Int→I α} {x : X} : runI (.load c k) x=andR (loadR c x) fun v y=>runI (k v) y:=rfl
theorem run_cas {α : Type} {c o n : Int} {k : Bool→I α} {x : X} : runI (.cas c o n k) x=andR (casR c o n x) fun v y=>runI (k v) y:=rfl
theorem run_alloc {α : Type} {n : Node} {i : Int} {k : Int→I α} {x : X} : runI (.alloc n i k) x=andR (allocR n i x) fun v y=>runI (k v) y:=rfl
theorem run_cell {α : Type} {i : Int} {k : Int→I α} {x : X} : runI (.cell i k) x=andR (cellR i x) fun v y=>runI (k v) y:=rfl
theorem run_gen {α : Type} {k : Int→I α} {x : X} : runI (.gen k) x=andR (genR x) fun v y=>runI (k v) y:=rfl
end Go.Ct
end
