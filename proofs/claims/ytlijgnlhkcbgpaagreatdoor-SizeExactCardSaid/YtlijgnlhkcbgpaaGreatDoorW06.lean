/- Parts of a proof: Pf, Tp, It, Ir. -/
import Derived.Test.YtlijgnlhkcbgpaaGreatDoorW05
import GoSem.Op.String
set_option linter.unusedVariables false
set_option linter.unusedSimpArgs false
set_option maxRecDepth 100000
set_option maxHeartbeats 4000000
section
namespace Go.Ct
def qJ(h:Nat)(b:UInt8):Nat:=((h^^^b.toNat)*1099511628211)%18446744073709551616
def Ly(key:List UInt8):Nat:=key.foldl qJ 14695981039346656037
def aH(key:ByteArray)(aI:Nat):Nat:=Ly key.data.toList&&&aI
def bU(key:ByteArray):Bool:=decide (key.size<=64)
def slice(h:Nat)(level:Int):Int:=if level<0\/10<level then 0 else((h/64^level.toNat%64:Nat):Int)
def jJ(h k:Nat):Nat->Nat->Nat
 |0,l=>l
 |n+1,l=>if slice h l=slice k l then jJ h k n (l+1)else l
def aJ(h k:Nat):Nat:=jJ h k 11 0
def dM(a b:ByteArray):Bool:=Op.bytesLess a.toList b.toList
def bR(a b:ByteArray):Bool:=a.toList==b.toList
def aQ:List bN->Bool
 |a::b::l=>dM a.key b.key&&aQ (b::l)
 |_=>true
def aZ:List bN->ByteArray->Nat
 |[],_=>0
 |q::l,key=>if dM q.key key then aZ l key+1 else 0
def iE(l:List bN)(i:Nat):bN:=l.getD i ⟨.empty,0⟩
def iZ(l:List bN)(key:ByteArray):Bool:=decide (aZ l key<l.length)&&bR (iE l (aZ l key)).key key
def bB(l:List bN)(key:ByteArray):Nat×Bool:=if aQ l&&iZ l key then((iE l (aZ l key)).value,true)else(0,false)
def mC(l:List bN)(key:ByteArray)(v:Nat):List bN:=
 if aQ l=false then[]
 else if iZ l key then l.take (aZ l key)++⟨(iE l (aZ l key)).key,v⟩::l.drop (aZ l key+1)
 else l.take (aZ l key)++⟨key,v⟩::l.drop (aZ l key)
def gX(l:List bN)(key:ByteArray):List bN:=
 if aQ l=false then[]else if iZ l key then l.take (aZ l key)++l.drop (aZ l key+1)else l
def gG(a b:bN):List bN:=if dM b.key a.key then[b,a]else[a,b]
def AP(a b:bN):Bool:=bR a.key b.key&&a.value==b.value
def mJ:List bN->List bN->Bool
 |[],[]=>true
 |a::l,b::k=>AP a b&&mJ l k
 |_,_=>false
def Node.only(n:Node):Node:=
 if n.kind=1 then{kind:=n.kind}
 else if n.kind=2 then{kind:=n.kind,gen:=n.gen,main:=n.main}
 else if n.kind=3 then{kind:=n.kind,aD:=n.aD,aA:=n.aA,prev:=n.prev}
 else if n.kind=4 then{kind:=n.kind,hash:=n.hash,key:=n.key,value:=n.value}
 else if n.kind=5 then{kind:=n.kind,hash:=n.hash,key:=n.key,value:=n.value,prev:=n.prev}
 else if n.kind=6 then{kind:=n.kind,hash:=n.hash,aF:=n.aF,prev:=n.prev}
 else if n.kind=7 then{kind:=n.kind,dC:=n.dC}
 else if n.kind=8 then{kind:=n.kind,dC:=n.dC,aK:=n.aK,new:=n.new,status:=n.status}
 else{kind:=n.kind}
def fT(a b:Node):Bool:=
 a.kind==b.kind&&a.gen==b.gen&&a.main==b.main&&a.aD==b.aD&&a.hash==b.hash&&bR a.key b.key&&a.value==b.value&&
 (a.aA==b.aA&&(mJ a.aF b.aF&&(a.prev==b.prev&&(a.dC==b.dC&&(a.aK==b.aK&&(a.new==b.new&&a.status==b.status))))))
def kS(l:List bN):Bool:=l.all λp=>decide (p.key.size<=64)
def Node.valid(n:Node):Bool:=
 if n.kind<1\/8<n.kind\/fT n n.only=false\/n.main<0\/n.prev<0\/n.status<0 then false
 else if n.kind=2 then decide (1<=n.gen)
 else if n.kind=3 then(n.aA.all λb=>decide (1<=b))&&n.aA.length==Bm.pop 64 n.aD
 else if n.kind=4\/n.kind=5 then decide (n.key.size<=64)
 else if n.kind=6 then decide (2<=n.aF.length)&&(aQ n.aF&&kS n.aF)
 else if n.kind=7 then decide (1<=n.dC)
 else if n.kind=8 then decide (1<=n.dC)&&(decide (1<=n.aK)&&decide (1<=n.new))
 else true
def Node.lO(c:Node):Bool:=c.kind==3&&c.valid
def aB(c:Node)(i:Int):Int×Bool:=if c.lO=false\/Bm.has c.aD i=false then(0,false)else(c.aA.getD (Bm.aO c.aD i) 0,true)
def aS(c:Node)(i r:Int):Node×Bool:=
 if c.lO=false\/i<0\/63<i\/r<1\/Bm.has c.aD i=true then({},false)
 else({kind:=3,aD:=Bm.cI c.aD i,aA:=c.aA.take (Bm.aO c.aD i)++r::c.aA.drop (Bm.aO c.aD i)},true)
def aP(c:Node)(i r:Int):Node×Bool:=
 if c.lO=false\/i<0\/63<i\/r<1\/Bm.has c.aD i=false then({},false)
 else({kind:=3,aD:=c.aD,aA:=c.aA.take (Bm.aO c.aD i)++r::c.aA.drop (Bm.aO c.aD i+1)},true)
def bL(c:Node)(i:Int):Node×Bool:=
 if c.lO=false\/i<0\/63<i\/Bm.has c.aD i=false then({},false)
 else({kind:=3,aD:=Bm.jD c.aD i,aA:=c.aA.take (Bm.aO c.aD i)++c.aA.drop (Bm.aO c.aD i+1)},true)
def fF(c:Node):Int×Bool:=if c.lO=false\/c.aA.length≠1 then(0,false)else(c.aA.getD 0 0,true)
def AV(n:Node):Node:={kind:=5,hash:=n.hash,key:=n.key,value:=n.value}
def Yd(n:Node):Node:={kind:=4,hash:=n.hash,key:=n.key,value:=n.value}
def bQ(c:Node)(level:Int)(sole:Node):Node:=if 0<level/\(fF c).2=true/\sole.kind=4 then AV sole else c
def aT(t:Node):Node×Bool:=if t.kind=5 then(Yd t,true)else({},false)
def Node.Kx(l:Node):Bool:=l.kind==6&&l.valid
def grown(l:Node)(key:ByteArray)(v:Nat):Node×Bool:=if l.Kx=false\/64<key.size then({},false)else({kind:=6,hash:=l.hash,aF:=mC l.aF key v},true)
def gC(l:Node)(key:ByteArray):Node×Bool:=
 if l.Kx=false\/(bB l.aF key).2=false then({},false)
 else match gX l.aF key with
  |[p]=>({kind:=5,hash:=l.hash,key:=p.key,value:=p.value},true)
  |rest=>({kind:=6,hash:=l.hash,aF:=rest},true)
def Node.fits(L:Nat)(n:Node):Prop:=
 n.aA.length<=1000000/\n.aF.length<=L+2/\n.aD<18446744073709551616/\n.hash<18446744073709551616/\n.key.size<=9223372036854775807/\(∀p∈n.aF,p.key.size<=9223372036854775807)/\(n.kind=3\/n.kind=6->n.valid=true)
theorem BV(L:Nat)(k g o e w:Int)(h:k≠3/\k≠6:=by decide):Node.fits L {kind:=k,gen:=g,dC:=o,aK:=e,new:=w}:=
 ⟨Xe _,Xe _,by show (0:Nat)<_;decide,by show (0:Nat)<_;decide,by show (0:Nat)<=_;decide,(λp hp=>by cases hp),λhk=>absurd hk (by rintro(h1|h1);exact h.1 h1;exact h.2 h1)⟩
theorem BN(L:Nat):Node.fits L {kind:=3}:=
 ⟨Xe _,Xe _,by show (0:Nat)<_;decide,by show (0:Nat)<_;decide,by show (0:Nat)<=_;decide,(λp hp=>by cases hp),λ_=>by decide+kernel⟩
theorem Node.fits.mono{L M:Nat}{n:Node}(h:n.fits L)(hLM:L<=M):n.fits M:=⟨h.1,lK h.2.1 (by omega),h.2.2⟩
theorem yB(a:ByteArray):bR a a=true:=by unfold bR;simp
theorem sO:∀l:List bN,mJ l l=true
 |[]=>rfl
 |a::l=>by rw[mJ,sO l];unfold AP;rw[yB];simp
theorem EZ(b:Nat)(l:List Int)(c:Int)(hc:0<=c):Node.valid {kind:=3,aD:=b,aA:=l,prev:=c}=((l.all λb=>decide (1<=b))&&l.length==Bm.pop 64 b):=by
 have h1:fT {kind:=3,aD:=b,aA:=l,prev:=c} (Node.only {kind:=3,aD:=b,aA:=l,prev:=c})=true:=by
  simp[Node.only,fT,yB,mJ]
 unfold Node.valid
 rw[h1]
 simp
 omega
theorem SC(h:Nat)(l:List bN)(c:Int)(hc:0<=c):Node.valid {kind:=6,hash:=h,aF:=l,prev:=c}=(decide (2<=l.length)&&(aQ l&&kS l)):=by
 have h1:fT {kind:=6,hash:=h,aF:=l,prev:=c} (Node.only {kind:=6,hash:=h,aF:=l,prev:=c})=true:=by
  simp[Node.only,fT,yB,sO]
 unfold Node.valid
 rw[h1]
 simp
 omega
theorem yJ(n:Node)(c:Int)(hc:0<=c)(hk:n.kind=3\/n.kind=6)(h:n.valid=true):({n.bare with prev:=c}:Node).valid=true:=by
 have hp:=sO n.aF
 rcases hk with hk|hk<;>
 ·unfold Node.valid at h ⊢
  simp only[Node.bare,Node.only,fT,hk]at h ⊢
  simp at h ⊢
  simp_all
  try omega
theorem WX{n:Node}(hk:n.kind=3)(h:n.valid=true):fT n {kind:=3,aD:=n.aD,aA:=n.aA,prev:=n.prev}=true/\n.main=0/\0<=n.prev/\n.status=0/\(n.aA.all λb=>decide (1<=b))=true/\n.aA.length=Bm.pop 64 n.aD:=by
 unfold Node.valid at h
 by_cases hc:n.kind<1\/8<n.kind\/fT n n.only=false\/n.main<0\/n.prev<0\/n.status<0
 ·rw[if_pos hc]at h;cases h
 ·rw[if_neg hc,if_neg (by omega),if_pos hk,mQ]at h
  have ho:n.only={kind:=3,aD:=n.aD,aA:=n.aA,prev:=n.prev}:=by unfold Node.only;simp[hk]
  have hq:fT n n.only=true:=by
   cases hq:fT n n.only with
   |true=>rfl
   |false=>exact absurd (.inr (.inr (.inl hq))) hc
  rw[ho]at hq
  have hq':=hq
  unfold fT at hq'
  simp only[mQ,wB]at hq'
  exact⟨hq,hq'.1.1.1.1.1.2,by omega,hq'.2.2.2.2.2.2.2,h.1,by simpa using h.2⟩
theorem NB{n:Node}(hk:n.kind=6)(h:n.valid=true):fT n {kind:=6,hash:=n.hash,aF:=n.aF,prev:=n.prev}=true/\n.main=0/\0<=n.prev/\n.status=0/\2<=n.aF.length/\aQ n.aF=true/\kS n.aF=true:=by
 unfold Node.valid at h
 by_cases hc:n.kind<1\/8<n.kind\/fT n n.only=false\/n.main<0\/n.prev<0\/n.status<0
 ·rw[if_pos hc]at h;cases h
 ·rw[if_neg hc,if_neg (by omega),if_neg (by omega),if_neg (by omega),if_pos hk,mQ,mQ]at h
  have ho:n.only={kind:=6,hash:=n.hash,aF:=n.aF,prev:=n.prev}:=by unfold Node.only;simp[hk]
  have hq:fT n n.only=true:=by
   cases hq:fT n n.only with
   |true=>rfl
   |false=>exact absurd (.inr (.inr (.inl hq))) hc
  rw[ho]at hq
  have hq':=hq
  unfold fT at hq'
  simp only[mQ,wB]at hq'
  exact⟨hq,hq'.1.1.1.1.1.2,by omega,hq'.2.2.2.2.2.2.2,by simpa using h.1,h.2.1,h.2.2⟩
end Go.Ct
end
section
namespace Go.Ct
structure Acc where
 kind:Int:=0
 cell:Int:=0
 dC:Int:=0
 new:Int:=0
 deriving DecidableEq
structure O5 where
 A2:Int:=0
 acc:Acc:={}
 A1:Int:=0
 o8:Bool:=false
 deriving DecidableEq
end Go.Ct
namespace Go.Ct
end Go.Ct
namespace Go.Ct
end Go.Ct
end
section
namespace Go.Ct
inductive I(α:Type) where
 |ret (a:α)
 |load (c:Int) (k:Int->I α)
 |eA (c dC new:Int) (k:Bool->I α)
 |alloc (n:Node) (i:Int) (k:Int->I α)
 |cell (i:Int) (k:Int->I α)
 |gen (k:Int->I α)
 |node (r:Int) (k:Node->I α)
def I.bind{α β:Type}:I α->(α->I β)->I β
 |.ret a,f=>f a
 |.load c k,f=>.load c λv=>(k v).bind f
 |.eA c o n k,f=>.eA c o n λv=>(k v).bind f
 |.alloc n i k,f=>.alloc n i λv=>(k v).bind f
 |.cell i k,f=>.cell i λv=>(k v).bind f
 |.gen k,f=>.gen λv=>(k v).bind f
 |.node r k,f=>.node r λv=>(k v).bind f
structure Frame where
 c:Int:=0
 k:Int:=0
 deriving DecidableEq
structure l9 where
 started:Bool:=false
 stack:List Frame:=[]
 wait:List bN:=[]
 deriving DecidableEq
structure Call where
 kind:Int:=0
 aE:bC:={}
 a:Int:=0
 b:Int:=0
 n:Int:=0
 index:Int:=0
 hash:Nat:=0
 aI:Nat:=0
 key:ByteArray:=.empty
 value:Nat:=0
 expect:Nat:=0
 bF:Int:=0
 only:Bool:=false
 walk:l9:={}
 answer:Result:={}
 deriving DecidableEq
structure Ex where
 call:Call:={}
 eG:List Int:=[]
 made:List Int:=[]
 cells:List Int:=[]
 dG:List Int:=[]
 a:Nat:=0
 m:Nat:=0
 c:Nat:=0
 g:Nat:=0
 free:Nat:=0
 aC:Bool:=false
 next:Acc:={}
 done:Bool:=false
 result:Result:={}
 walk:l9:={}
structure X where
 e:Ex
 s:St
def X.node(x:X)(r:Int):Node:=x.s.node r
def WK(b:Bool):Int:=if b then 1 else 0
def rX(want:Acc)(x:X):X:={x with e:={x.e with aC:=true,next:=want}}
def nD(x:X):X:={x with e:={x.e with a:=x.e.a+1}}
def jR(v:Int)(s:St)(x:X):X:={e:={x.e with free:=x.e.free-1,eG:=x.e.eG++[v],a:=x.e.a+1},s:=s}
def dY(c:Int)(x:X):X×Option Int:=
 if x.e.aC=true then(x,none)
 else if x.e.a<x.e.eG.length then(nD x,some (x.e.eG.getD x.e.a 0))
 else if x.e.free=0 then(rX ⟨1,c,0,0⟩ x,none)
 else(jR (x.s.load c).2 (x.s.load c).1 x,some (x.s.load c).2)
def iB(c dC new:Int)(x:X):X×Option Bool:=
 if x.e.aC=true then(x,none)
 else if x.e.a<x.e.eG.length then(nD x,some (x.e.eG.getD x.e.a 0==1))
 else if x.e.free=0 then(rX ⟨2,c,dC,new⟩ x,none)
 else(jR (WK (x.s.eA c dC new).2) (x.s.eA c dC new).1 x,some (x.s.eA c dC new).2)
def dB(n:Node)(i:Int)(x:X):X×Option Int:=
 if x.e.aC=true then(x,none)
 else if x.e.m=x.e.made.length then({e:={x.e with made:=x.e.made++[(x.s.alloc n i).2],m:=x.e.m+1},s:=(x.s.alloc n i).1},some (x.s.alloc n i).2)
 else({x with e:={x.e with m:=x.e.m+1}},some (x.e.made.getD x.e.m 0))
def fE(i:Int)(x:X):X×Option Int:=
 if x.e.aC=true then(x,none)
 else if x.e.c=x.e.cells.length then({e:={x.e with cells:=x.e.cells++[(x.s.aV i).2],c:=x.e.c+1},s:=(x.s.aV i).1},some (x.s.aV i).2)
 else({x with e:={x.e with c:=x.e.c+1}},some (x.e.cells.getD x.e.c 0))
def iH(x:X):X×Option Int:=
 if x.e.aC=true then(x,none)
 else if x.e.g=x.e.dG.length then({e:={x.e with dG:=x.e.dG++[x.s.bS.2],g:=x.e.g+1},s:=x.s.bS.1},some x.s.bS.2)
 else({x with e:={x.e with g:=x.e.g+1}},some (x.e.dG.getD x.e.g 0))
def iP{α β:Type}(r:X×Option α)(f:α->X->X×Option β):X×Option β:=match r with
 |(y,some v)=>f v y
 |(y,none)=>(y,none)
def aX{α:Type}:I α->X->X×Option α
 |.ret a,x=>if x.e.aC=true then(x,none)else(x,some a)
 |.load c k,x=>iP (dY c x) λv y=>aX (k v) y
 |.eA c o n k,x=>iP (iB c o n x) λv y=>aX (k v) y
 |.alloc n i k,x=>iP (dB n i x) λv y=>aX (k v) y
 |.cell i k,x=>iP (fE i x) λv y=>aX (k v) y
 |.gen k,x=>iP (iH x) λv y=>aX (k v) y
 |.node r k,x=>aX (k (x.node r)) x
theorem Uf{c:Int}{x y:X}{v:Int}(h:dY c x=(y,some v)):y.e.aC=false:=by
 unfold dY at h
 split at h
 ·cases h
 ·rename_i h0
  have h0:x.e.aC=false:=by simpa using h0
  split at h
  ·cases h;exact h0
  ·split at h
   ·cases h
   ·cases h;exact h0
theorem TH{c o n:Int}{x y:X}{v:Bool}(h:iB c o n x=(y,some v)):y.e.aC=false:=by
 unfold iB at h
 split at h
 ·cases h
 ·rename_i h0
  have h0:x.e.aC=false:=by simpa using h0
  split at h
  ·cases h;exact h0
  ·split at h
   ·cases h
   ·cases h;exact h0
theorem IF{n:Node}{i:Int}{x y:X}{v:Int}(h:dB n i x=(y,some v)):y.e.aC=false:=by
 unfold dB at h
 split at h
 ·cases h
 ·rename_i h0
  have h0:x.e.aC=false:=by simpa using h0
  split at h<;>cases h<;>exact h0
theorem MQ{i:Int}{x y:X}{v:Int}(h:fE i x=(y,some v)):y.e.aC=false:=by
 unfold fE at h
 split at h
 ·cases h
 ·rename_i h0
  have h0:x.e.aC=false:=by simpa using h0
  split at h<;>cases h<;>exact h0
theorem UA{x y:X}{v:Int}(h:iH x=(y,some v)):y.e.aC=false:=by
 unfold iH at h
 split at h
 ·cases h
 ·rename_i h0
  have h0:x.e.aC=false:=by simpa using h0
  split at h<;>cases h<;>exact h0
theorem Wg{c:Int}{x y:X}(h:dY c x=(y,none)):y.e.aC=true:=by
 unfold dY at h
 split at h
 ·rename_i h0;cases h;exact h0
 ·split at h
  ·cases h
  ·split at h
   ·cases h;rfl
   ·cases h
theorem SM{c o n:Int}{x y:X}(h:iB c o n x=(y,none)):y.e.aC=true:=by
 unfold iB at h
 split at h
 ·rename_i h0;cases h;exact h0
 ·split at h
  ·cases h
  ·split at h
   ·cases h;rfl
   ·cases h
theorem IV{n:Node}{i:Int}{x y:X}(h:dB n i x=(y,none)):y=x/\x.e.aC=true:=by
 unfold dB at h
 split at h
 ·rename_i h0;cases h;exact⟨rfl,h0⟩
 ·split at h<;>cases h
theorem OE{i:Int}{x y:X}(h:fE i x=(y,none)):y=x/\x.e.aC=true:=by
 unfold fE at h
 split at h
 ·rename_i h0;cases h;exact⟨rfl,h0⟩
 ·split at h<;>cases h
theorem TI{x y:X}(h:iH x=(y,none)):y=x/\x.e.aC=true:=by
 unfold iH at h
 split at h
 ·rename_i h0;cases h;exact⟨rfl,h0⟩
 ·split at h<;>cases h
theorem cP{α:Type}:∀{t:I α} {x:X},x.e.aC=true->aX t x=(x,none)
 |.ret a,x,h=>by unfold aX;rw[if_pos h]
 |.load c k,x,h=>by unfold aX dY;rw[if_pos h];rfl
 |.eA c o n k,x,h=>by unfold aX iB;rw[if_pos h];rfl
 |.alloc n i k,x,h=>by unfold aX dB;rw[if_pos h];rfl
 |.cell i k,x,h=>by unfold aX fE;rw[if_pos h];rfl
 |.gen k,x,h=>by unfold aX iH;rw[if_pos h];rfl
 |.node r k,x,h=>by unfold aX;exact cP h
theorem rU{α β γ:Type}(r:X×Option α)(f:α->X->X×Option β)(g:β->X->X×Option γ):iP (iP r f) g=iP r λv y=>iP (f v y) g:=by
 obtain⟨y,o⟩:=r
 cases o<;>rfl
theorem mX{α β:Type}{r:X×Option α}{f g:α->X->X×Option β}(h:∀v y,f v y=g v y):iP r f=iP r g:=by
 obtain⟨y,o⟩:=r
 cases o with
 |none=>rfl
 |some v=>exact h v y
theorem iJ{α β:Type}:∀(t:I α) (f:α->I β) (x:X),aX (t.bind f) x=iP (aX t x) λv y=>aX (f v) y
 |.ret a,f,x=>by
  unfold I.bind
  by_cases h:x.e.aC=true
  ·rw[cP h,cP h];rfl
  ·show _=iP (if x.e.aC=true then(x,none)else(x,some a)) _
   rw[if_neg h];rfl
 |.load c k,f,x=>by
  show iP (dY c x) (λv y=>aX ((k v).bind f) y)=iP (iP (dY c x) λv y=>aX (k v) y) _
  rw[rU];exact mX λv y=>iJ (k v) f y
 |.eA c o n k,f,x=>by
  show iP (iB c o n x) (λv y=>aX ((k v).bind f) y)=iP (iP (iB c o n x) λv y=>aX (k v) y) _
  rw[rU];exact mX λv y=>iJ (k v) f y
 |.alloc n i k,f,x=>by
  show iP (dB n i x) (λv y=>aX ((k v).bind f) y)=iP (iP (dB n i x) λv y=>aX (k v) y) _
  rw[rU];exact mX λv y=>iJ (k v) f y
 |.cell i k,f,x=>by
  show iP (fE i x) (λv y=>aX ((k v).bind f) y)=iP (iP (fE i x) λv y=>aX (k v) y) _
  rw[rU];exact mX λv y=>iJ (k v) f y
 |.gen k,f,x=>by
  show iP (iH x) (λv y=>aX ((k v).bind f) y)=iP (iP (iH x) λv y=>aX (k v) y) _
  rw[rU];exact mX λv y=>iJ (k v) f y
 |.node r k,f,x=>iJ (k (x.node r)) f x
theorem Uo{α:Type}{r:Int}{k:Node->I α}{x:X}:aX (.node r k) x=aX (k (x.node r)) x:=rfl
theorem UH{α:Type}{a:α}{x:X}(h:x.e.aC=false):aX (.ret a) x=(x,some a):=by
 unfold aX;rw[if_neg (by rw[h];decide)]
theorem run_load{α:Type}{c:Int}{k:Int->I α}{x:X}:aX (.load c k) x=iP (dY c x) λv y=>aX (k v) y:=rfl
theorem Gk{α:Type}{c o n:Int}{k:Bool->I α}{x:X}:aX (.eA c o n k) x=iP (iB c o n x) λv y=>aX (k v) y:=rfl
theorem Db{α:Type}{n:Node}{i:Int}{k:Int->I α}{x:X}:aX (.alloc n i k) x=iP (dB n i x) λv y=>aX (k v) y:=rfl
theorem Ip{α:Type}{i:Int}{k:Int->I α}{x:X}:aX (.cell i k) x=iP (fE i x) λv y=>aX (k v) y:=rfl
theorem Tq{α:Type}{k:Int->I α}{x:X}:aX (.gen k) x=iP (iH x) λv y=>aX (k v) y:=rfl
end Go.Ct
end
section
namespace Go.Ct
def wR(v s:Int):I Int:=bif s==1 then .node v λd=>.ret d.new else .node v λd=>.ret d.dC
def Mj(t:bC)(v s:Int):I Int:=(wR v s).bind λw=>.eA t.root v w λ_=>.ret w
def GS(t:bC):I Int:=
 .load t.root λv=>.node v λd=>bif d.kind==2 then .ret v else
  .node v λd=>.load d.status λs=>bif s==0 then
   .node v λd=>.eA d.status 0 2 λ_=>.node v λd=>.load d.status λs=>Mj t v s
  else Mj t v s
def EO(i m p:Int):I Int:=.node i λa=>.node p λb=>.eA a.main m b.dC λ_=>.node p λb=>.ret b.dC
def GV(i m:Int):I Int:=.node m λn=>.load n.prev λp=>bif p==0 then .ret m else EO i m p
def EN(i m p:Int):I Int:=.node m λn=>.alloc {kind:=7,dC:=p} 0 λf=>.eA n.prev p f λ_=>GV i m
def wQ(t:bC)(i m:Int):I Int:=
 .node m λn=>.load n.prev λp=>bif p==0 then .ret m else
  .node p λb=>bif b.bM then
   bif t.readOnly then EN i m p else
    (GS t).bind λr=>.node r λa=>.node i λb=>bif a.gen==b.gen then .node m λn=>.eA n.prev p 0 λ_=>GV i m else EN i m p
  else EO i m p
def oJ(t:bC)(i:Int):I Int:=.node i λn=>.load n.main λm=>wQ t i m
def vR(t:bC)(v:Int):I Unit:=
 .node v λd=>(oJ t d.dC).bind λm=>.node v λd=>bif m==d.aK then
  .node v λd=>.eA d.status 0 1 λ_=>.ret ()else .node v λd=>.eA d.status 0 2 λ_=>.ret ()
def tV(t:bC):I Int:=
 .load t.root λv=>.node v λd=>bif d.kind==2 then .ret v else
  .node v λd=>.load d.status λs=>bif s==0 then
   (vR t v).bind λ_=>.node v λd=>.load d.status λs=>Mj t v s
  else Mj t v s
def mE(t:bC)(i dC n:Int):I Bool:=
 .node i λa=>.eA a.main dC n λok=>bif ok then(wQ t i n).bind λm=>.ret (m==n)else .ret false
def Dn(t:bC)(dC aK new:Int):I Bool:=
 .alloc {kind:=8,dC:=dC,aK:=aK,new:=new} 0 λd=>.eA t.root dC d λok=>bif ok then
  (vR t d).bind λ_=>.node d λn=>.load n.status λs=>(wR d s).bind λw=>.eA t.root d w λ_=>.ret (s==1)
 else .ret false
def nU(c index r:Int):I Int:=.node c λn=>.alloc (aP n index r).1 c .ret
def Hx(t:bC)(i c index:Int):I Int:=
 .node c λn=>(oJ t (aB n index).1).bind λm=>.node i λa=>.alloc {kind:=2,gen:=a.gen} m λj=>
  (nU c index j).bind λr=>(mE t i c r).bind λok=>bif ok then .ret j else .ret 0
def yF(t:bC)(parent child:Int)(h:Nat)(level:Int):I Bool:=
 (oJ t parent).bind λm=>.node m λn=>bif !(aB n (slice h level)).2 then .ret false else bif (aB n (slice h level)).1 != child then .ret false else
  (oJ t child).bind λq=>.node q λb=>bif !(aT b).2 then .ret false else
   .alloc (aT b).1 0 λs=>.node m λn=>.alloc (bQ (aP n (slice h level) s).1 level (aT b).1) m λr=>mE t parent m r
def cC(found:Bool)(v:Nat):Result:={found:=found,value:=v}
def Mp(t:bC)(key:ByteArray)(h:Nat):Nat->Int->Int->I Result
 |0,_,_=>.ret {}
 |n+1,i,level=>(oJ t i).bind λr=>.node r λm=>
  bif m.kind==5 then(bif bR m.key key then .ret (cC true m.value)else .ret (cC false 0))
  else bif m.kind==6 then .ret (cC (bB m.aF key).2 (bB m.aF key).1)
  else bif !(aB m (slice h level)).2 then .ret (cC false 0)
  else .node (aB m (slice h level)).1 λs=>bif s.kind==4 then(bif bR s.key key then .ret (cC true s.value)else .ret (cC false 0))
   else Mp t key h n (aB m (slice h level)).1 (level+1)
def tH(c:Call)(n:Nat):I Result:=(tV c.aE).bind λr=>Mp c.aE c.key (aH c.key c.aI) n r 0
def cS(c:Call)(found:Bool)(v:Nat):Bool:=
 bif c.bF==1 then !found else bif c.bF==2 then found else bif c.bF==3 then found&&v==c.expect else true
def dL(found:Bool)(v:Nat):Result:={found:=found,value:=v,count:=1}
def kJ(found:Bool)(v:Nat)(ok:Bool):I (Result×Int):=.ret (dL found v,bif ok then 1 else 0)
def eZ(h:Nat)(gen first:Int)(k:Int):Nat->List (Node×Int)->List (Node×Int)
 |0,l=>l
 |n+1,l=>eZ h gen first (k-1) n (l++[({kind:=2,gen:=gen},first+l.length-1),({kind:=3,aD:=Bm.cI 0 (slice h (k-1)),aA:=[first+l.length-1+1]},0)])
def fX(i a k b:Int):Node:={kind:=3,aD:=Bm.cI (Bm.cI 0 i) k,aA:=if k<i then[b,a]else[a,b]}
def bT(x:Node)(at_:Int)(h:Nat)(key:ByteArray)(v:Nat)(level gen first:Int):List (Node×Int):=
 let c:=aJ x.hash h
 if 11<=c then eZ h gen first 11 (11-level).toNat [({kind:=6,hash:=h,aF:=gG ⟨x.key,x.value⟩ ⟨key,v⟩},0)]
 else eZ h gen first c ((c:Int)-level).toNat [({kind:=4,hash:=h,key:=key,value:=v},0),(fX (slice x.hash c) at_ (slice h c) first,0)]
def gR:List (Node×Int)->Int->I Int
 |[],r=>.ret r
 |n::l,_=>.alloc n.1 n.2 λr=>gR l r
def nM(x:Node)(at_:Int)(h:Nat)(key:ByteArray)(v:Nat)(level gen:Int):I Int:=
 match bT x at_ h key v level gen 0 with
 |[]=>.ret 0
 |n::_=>.alloc n.1 n.2 λf=>gR (bT x at_ h key v level gen f).tail f
def lJ(c:Call)(i m:Int)(h:Nat)(level gen:Int):I (Result×Int):=
 .node m λn=>bif n.kind==6 then
  bif !cS c (bB n.aF c.key).2 (bB n.aF c.key).1 then .ret (cC (bB n.aF c.key).2 (bB n.aF c.key).1,1)
  else .alloc (grown n c.key c.value).1 m λa=>(mE c.aE i m a).bind (kJ (bB n.aF c.key).2 (bB n.aF c.key).1)
 else .node (aB n (slice h level)).1 λs=>bif (aB n (slice h level)).2&&s.kind==2 then .ret ({},2)
 else bif (aB n (slice h level)).2&&bR s.key c.key then
  bif !cS c true s.value then .ret (cC true s.value,1)
  else .alloc {kind:=4,hash:=h,key:=c.key,value:=c.value} 0 λa=>(nU m (slice h level) a).bind λr=>(mE c.aE i m r).bind (kJ true s.value)
 else bif !cS c false 0 then .ret (cC false 0,1)
 else bif !(aB n (slice h level)).2 then
  .alloc {kind:=4,hash:=h,key:=c.key,value:=c.value} 0 λa=>.alloc (aS n (slice h level) a).1 m λr=>(mE c.aE i m r).bind (kJ false 0)
 else(nM s (aB n (slice h level)).1 h c.key c.value (level+1) gen).bind λd=>.alloc {kind:=2,gen:=gen} d λj=>
  (nU m (slice h level) j).bind λr=>(mE c.aE i m r).bind (kJ false 0)
def qS(t:bC)(i m ix gen:Int):I Int:=
 .node m λn=>.node (aB n ix).1 λb=>bif b.gen==gen then .ret (aB n ix).1 else Hx t i m ix
def Dx(c:Call)(h:Nat)(gen:Int):Nat->Int->Int->Int->I (Option Result)
 |0,_,_,_=>.ret none
 |n+1,parent,i,level=>(oJ c.aE i).bind λm=>.node m λa=>bif a.kind==5 then(yF c.aE parent i h (level-1)).bind λ_=>.ret none
  else(lJ c i m h level gen).bind λr=>bif r.2==1 then .ret (some r.1)else bif r.2==0 then .ret none
  else(qS c.aE i m (slice h level) gen).bind λb=>bif b==0 then .ret none else Dx c h gen n i b (level+1)
def yN(c:Call)(k:Nat):Nat->I Result
 |0=>.ret {}
 |n+1=>(tV c.aE).bind λi=>.node i λa=>(Dx c (aH c.key c.aI) a.gen k 0 i 0).bind λ
  |some r=>.ret r
  |none=>yN c k n
def kT(c:Call)(i m:Int)(h:Nat)(level:Int):I (Result×Int):=
 .node m λn=>bif n.kind==6 then
  bif !(bB n.aF c.key).2 then .ret (cC (bB n.aF c.key).2 (bB n.aF c.key).1,1)
  else bif c.only&&(bB n.aF c.key).1 != c.expect then .ret (cC (bB n.aF c.key).2 (bB n.aF c.key).1,1)
  else .alloc (gC n c.key).1 m λa=>(mE c.aE i m a).bind (kJ true (bB n.aF c.key).1)
 else .node (aB n (slice h level)).1 λs=>bif (aB n (slice h level)).2&&s.kind==2 then .ret ({},2)
 else bif !(aB n (slice h level)).2 then .ret (cC false 0,1)
 else bif !bR s.key c.key then .ret (cC false 0,1)
 else bif c.only&&s.value != c.expect then .ret (cC true s.value,1)
 else .node (fF (bL n (slice h level)).1).1 λq=>.alloc (bQ (bL n (slice h level)).1 level q) m λr=>(mE c.aE i m r).bind (kJ true s.value)
def QP(t:bC)(path:List Int)(h:Nat):Nat->I Unit
 |0=>.ret ()
 |l+1=>(oJ t (path.getD (l+1) 0)).bind λm=>.node m λn=>bif n.kind != 5 then .ret ()
  else(yF t (path.getD l 0) (path.getD (l+1) 0) h l).bind λ_=>QP t path h l
def sY(c:Call)(h:Nat)(gen:Int):Nat->List Int->Int->Int->I (Option Result)
 |0,_,_,_=>.ret none
 |n+1,path,i,level=>(oJ c.aE i).bind λm=>.node m λa=>bif a.kind==5 then(yF c.aE (path.getD (level-1).toNat 0) i h (level-1)).bind λ_=>.ret none
  else(kT c i m h level).bind λr=>bif r.2==1 then(bif r.1.count==1 then(QP c.aE path h (path.length-1)).bind λ_=>.ret (some r.1)else .ret (some r.1))else bif r.2==0 then .ret none
  else(qS c.aE i m (slice h level) gen).bind λb=>bif b==0 then .ret none else sY c h gen n (path++[b]) b (level+1)
def pE(c:Call)(k:Nat):Nat->I Result
 |0=>.ret {}
 |n+1=>(tV c.aE).bind λi=>.node i λa=>(sY c (aH c.key c.aI) a.gen k [i] i 0).bind λ
  |some r=>.ret r
  |none=>pE c k n
def wK(m:Int):I Result:=.gen λg=>.alloc {kind:=2,gen:=g} m λi=>.cell i λc=>.ret {found:=true,aE:={root:=c}}
def Vn(r:Int):I Result:=.cell r λc=>.ret {found:=true,aE:={root:=c,readOnly:=true}}
def Xl(t:bC)(freeze:Bool):Nat->I Result
 |0=>.ret {}
 |n+1=>(tV t).bind λr=>(oJ t r).bind λm=>.gen λg=>.alloc {kind:=2,gen:=g} m λi=>(Dn t r m i).bind λok=>
  bif !ok then Xl t freeze n else bif freeze then Vn r else wK m
def iL(t:bC)(freeze:Bool)(n:Nat):I Result:=
 bif t.readOnly then .load t.root λr=>bif freeze then Vn r else(oJ t r).bind wK
 else Xl t freeze n
def vK(t:bC):Nat->I Result
 |0=>.ret {}
 |n+1=>(tV t).bind λr=>(oJ t r).bind λm=>.alloc {kind:=3} 0 λc=>.gen λg=>.alloc {kind:=2,gen:=g} c λi=>(Dn t r m i).bind λok=>
  bif ok then .ret {found:=true}else vK t n
def wr(k:Int):Int:=IntKind.i64.wrap k
structure Wk where
 started:Bool:=false
 stack:List (Int×Int):=[]
 wait:List bN:=[]
structure Nx where
 w:Wk:={}
 p:bN:=⟨.empty,0⟩
 ok:Bool:=false
def kN(b:Nat):Nat->Int->Int
 |0,k=>k
 |f+1,k=>bif decide (k<64)&&!Bm.has b k then kN b f (k+1)else k
def fK(b:Nat)(k:Int):Int:=kN b (64-k).toNat k
def Wk.meet(w:Wk)(m:Int)(n:Node):Wk:=
 bif n.kind==3 then⟨w.started,(m,0)::w.stack,w.wait⟩else bif n.kind==5 then⟨w.started,w.stack,[⟨n.key,n.value⟩]⟩else bif n.kind==6 then⟨w.started,w.stack,n.aF⟩else w
def xG(t:bC)(w:Wk)(i:Int):I Wk:=(oJ t i).bind λm=>.node m λn=>.ret (w.meet m n)
def ZF(t:bC)(st:Bool)(K:Wk->I Nx):List (Int×Int)->I Nx
 |[]=>.ret ⟨⟨st,[],[]⟩,⟨.empty,0⟩,false⟩
 |p::l=>.node p.1 λc=>bif fK c.aD p.2==64 then ZF t st K l else
  .node (aB c (fK c.aD p.2)).1 λs=>bif s.kind==4 then .ret ⟨⟨st,(p.1,fK c.aD p.2+1)::l,[]⟩,⟨s.key,s.value⟩,true⟩
   else(xG t ⟨st,(p.1,fK c.aD p.2+1)::l,[]⟩ (aB c (fK c.aD p.2)).1).bind K
def Ty(t:bC)(K:Wk->I Nx)(w:Wk):I Nx:=match w.wait with
 |p::ps=>.ret ⟨⟨w.started,w.stack,ps⟩,p,true⟩
 |[]=>ZF t w.started K w.stack
def nB(t:bC):Nat->Wk->I Nx
 |0,w=>Ty t (λw=>.ret ⟨w,⟨.empty,0⟩,false⟩) w
 |n+1,w=>Ty t (nB t n) w
def Nj(t:bC)(n:Nat)(w:Wk):I Nx:=
 bif w.started then nB t n w else .load t.root λr=>(xG t ⟨true,w.stack,w.wait⟩ r).bind (nB t n)
def Du(t:bC)(n:Nat):Nat->Int->Wk->I Result
 |0,_,_=>.ret {}
 |c+1,k,w=>(Nj t n w).bind λz=>bif !z.ok then .ret {count:=k}else Du t n c (wr (k+1)) z.w
def Il(n:Nat):Nat:=(n+1)*10000000000000
def refused(c:Call):Int:=
 bif c.kind==7||c.kind==9 then(bif bU c.key then 0 else 1)
 else bif c.kind==8 then(bif bU c.key&&decide (0<=c.bF)&&decide (c.bF<=3)then 0 else 1)
 else bif c.kind==13||c.kind==14 then(bif c.aE.readOnly then 0 else 7)
 else 0
def bY(c:Call)(n:Nat):I Result:=
 if refused c≠0 then .ret {err:=refused c}
 else if c.kind=1 then(oJ c.aE c.a).bind λr=>.ret {ref:=r}
 else if c.kind=2 then(mE c.aE c.a c.b c.n).bind λr=>.ret {found:=r}
 else if c.kind=3 then(tV c.aE).bind λr=>.ret {ref:=r}
 else if c.kind=4 then(Dn c.aE c.a c.b c.n).bind λr=>.ret {found:=r}
 else if c.kind=5 then(Hx c.aE c.a c.b c.index).bind λr=>.ret {ref:=r,found:=r != 0}
 else if c.kind=6 then(yF c.aE c.a c.b c.hash c.index).bind λr=>.ret {found:=r}
 else if c.kind=7 then tH c n
 else if c.kind=8 then yN c n n
 else if c.kind=9 then pE c n n
 else if c.kind=10 then iL c.aE false n
 else if c.kind=11 then iL c.aE true n
 else if c.kind=12 then vK c.aE n
 else if c.kind=14 then Du c.aE n (Il n) 0 {}
 else .ret c.answer
def cD(free:Nat)(x:X):X:={x with e:={x.e with a:=0,m:=0,c:=0,g:=0,free:=free,aC:=false}}
end Go.Ct
end
