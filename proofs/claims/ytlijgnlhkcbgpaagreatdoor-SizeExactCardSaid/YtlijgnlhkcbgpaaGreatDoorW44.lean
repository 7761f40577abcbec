/- Parts of a proof: Lq, Ayj, Lr, Azi, Gs, Vp, Wv, Ev9, Azj, Wr, Azk. -/
import Derived.Test.YtlijgnlhkcbgpaaGreatDoorW43
import Derived.Test.YtlijgnlhkcbgpaaGreatDoorW22
set_option linter.unusedVariables false
set_option linter.unusedSimpArgs false
set_option maxRecDepth 100000
set_option maxHeartbeats 4000000
section
namespace Go.Q9
open Go.Proofs.Tryz
open Go.RowKit Go.E
variable{B w:World}{L:List As}
theorem RK(a:Addr)(w:World):(method 346 29 (.pointer (some a)) "Node").run prog w=.ok (59,.pointer (some a)) w:=by kernel_rfl
theorem QF(a:Addr)(w:World):(method 346 29 (.pointer (some a)) "Alloc").run prog w=.ok (216,.pointer (some a)) w:=by kernel_rfl
theorem BL(a:Addr)(w:World):(method 346 29 (.pointer (some a)) "NewCell").run prog w=.ok (220,.pointer (some a)) w:=by kernel_rfl
theorem IR(a:Addr)(w:World):(method 346 29 (.pointer (some a)) "NewGen").run prog w=.ok (219,.pointer (some a)) w:=by kernel_rfl
theorem QZ(a:Addr)(w:World):(method 346 29 (.pointer (some a)) "Load").run prog w=.ok (218,.pointer (some a)) w:=by kernel_rfl
theorem YK(a:Addr)(w:World):(method 346 29 (.pointer (some a)) "CAS").run prog w=.ok (217,.pointer (some a)) w:=by kernel_rfl
theorem XH(a:Addr)(w:World):(nilAhead 346 29 (.pointer (some a)) "Alloc").run prog w=.ok (some false) w:=by kernel_rfl
theorem AB(ab:Nat)(w:World):PK 29 (QQ ab) ab w:=⟨RK _ w,QF _ w,BL _ w,IR _ w,QZ _ w,YK _ w⟩
theorem Z5(a:Addr)(w:World):∀f,1≤f→(method f 29 (.pointer (some a)) "Node").run prog w=.ok (59,.pointer (some a)) w
 |0,h=>absurd h (by decide)
 |f+1,_=>by kernel_rfl
theorem S7(a:Addr)(w:World):∀f,1≤f→(method f 29 (.pointer (some a)) "Alloc").run prog w=.ok (216,.pointer (some a)) w
 |0,h=>absurd h (by decide)
 |f+1,_=>by kernel_rfl
theorem TU(a:Addr)(w:World):∀f,1≤f→(method f 29 (.pointer (some a)) "NewCell").run prog w=.ok (220,.pointer (some a)) w
 |0,h=>absurd h (by decide)
 |f+1,_=>by kernel_rfl
theorem m8(a:Addr)(w:World):∀f,1≤f→(method f 29 (.pointer (some a)) "NewGen").run prog w=.ok (219,.pointer (some a)) w
 |0,h=>absurd h (by decide)
 |f+1,_=>by kernel_rfl
def arX:List As:=[Ba]
def cV(ab:Nat):dN:=⟨29,QQ ab,ab,arX,1,by decide,λ_=>⟨Z5 _ _,S7 _ _,TU _ _,m8 _ _⟩⟩
instance (ab:Nat):Full (cV ab):=⟨λw=>XH _ w⟩
instance (ab:Nat):Um (cV ab):=⟨λ{w O R} h=>by
 obtain⟨Os,Rs,h1,_⟩:=h
 exact(h1 0 _ rfl).1⟩
theorem LX{ab:Nat}{s:Ct.St}(h:SH B w (wW ab s::Ba::L)):SH B w ((cV ab).a s::L):=SH.si (S:=cV ab) ((SH.is (l:=[Ba]) (h.fr (.c r1 .n))).fr (.c r1 (.c r0 .n)))
theorem VB{ab:Nat}{s:Ct.St}(h:SH B w ((cV ab).a s::L)):SH B w (wW ab s::Ba::L):=(SH.se (l:=[Ba]) ((SH.so (S:=cV ab) h).fr (.c r1 .n))).fr (.c r1 (.c r0 .n))
def Af(z:Ct.Px):Nat×Ct.Ex:=(z.xb,z.e)
def AW(z:Ct.Px):Nat×Nat:=(z.tb,z.xb)
def Ns(a:Nat×Nat):List Value:=[↑a.1,↑a.2]
theorem wI(a:Nat×Nat):(Ns a).length=2:=rfl
def BM(S:dN)(n:Nat)(z:Ct.Px):As:=eN S n z.tb z.u z.k
def nR(S:dN)(n:Nat)(ys:List Ct.Px):As:=se (ys.map (BM S n))
theorem VG{S:dN}{n j:Nat}{ys:List Ct.Px}(hj:j<ys.length)(h:SH B w (nR S n ys::L)):SH B w (BM S n ys[j]::nR S n (ys.eraseIdx j)::L):=by
 have h1:=(SH.se h).fr (.c (Tu hj) .n)
 have h2:SH B w ((ys.eraseIdx j).map (BM S n)++BM S n ys[j]::L):=SH.back (A:=BM S n ys[j]) h1 Bn
 exact(SH.is (l:=(ys.eraseIdx j).map (BM S n)) h2).fr (.c r1 .n)
theorem VO{S:dN}{n j:Nat}{ys:List Ct.Px}{z:Ct.Px}(hj:j<ys.length)(h:SH B w (BM S n z::nR S n (ys.eraseIdx j)::L)):SH B w (nR S n (ys.set j z)::L):=by
 have h2:SH B w ((ys.eraseIdx j).map (BM S n)++BM S n z::L):=SH.se (h.fr (.c r1 .n))
 have h3:SH B w (BM S n z::((ys.eraseIdx j).map (BM S n)++L)):=h2.fr (.c Bn .n)
 exact SH.is (l:=(ys.set j z).map (BM S n)) (SH.back (A:=BM S n z) h3 (zF hj))
theorem CI{α:Type}{f g:α->As}(hi:∀a w O R,(f a).p w O R->(g a).p w O R){l:List α}{O R:Nat->Prop}(h:(se (l.map f)).p w O R):(se (l.map g)).p w O R:=by
 obtain⟨Os,Rs,h1,h2,h3,h4⟩:=h
 refine⟨Os,Rs,λi a ha=>?_,by rw[mI]at h2 ⊢;exact h2,by rw[mI]at h3 ⊢;exact h3,by rw[mI]at h4 ⊢;exact h4⟩
 rw[Tx]at ha
 cases hl:l[i]? with
 |none=>rw[hl]at ha;cases ha
 |some x=>
  rw[hl]at ha;injection ha with ha;subst ha
  exact hi x w _ _ (h1 i (f x) (by rw[Tx,hl];rfl))
theorem YA{S:dN}{m n:Nat}{ys:List Ct.Px}(hmn:m<=n)(h:SH B w (nR S n ys::L)):SH B w (nR S m ys::L):=h.imp λO R=>CI λz w O R hz=>by
 obtain⟨c,hz⟩:=hz
 exact⟨c,Ae hz λO R=>yG hmn z.u c w O R⟩
theorem ZR{S:dN}{n tb:Nat}{u:Ct.I Ct.Result}{ys:List Ct.Px}{xb:Nat}{e:Ct.Ex}(h:SH B w (eN S n tb u 0::nR S n ys::L)):SH B w (nR S n (ys++[{tb:=tb,xb:=xb,e:=e,u:=u}])::L):=by
 have h2:SH B w (ys.map (BM S n)++eN S n tb u 0::L):=SH.se (h.fr (.c r1 .n))
 refine SH.is (l:=(ys++[({tb:=tb,xb:=xb,e:=e,u:=u}:Ct.Px)]).map (BM S n)) ?_
 rw[tX,eC];exact h2
theorem i9{S:dN}{n:Nat}(h:SH B w L):SH B w (nR S n []::L):=SH.is (l:=[]) h
theorem Am{α:Type}{l:List α}{j:Nat}{d:α}(hj:j<l.length):l.getD j d=l[j]:=by rw[eX,fM hj];rfl
theorem FK{ys:List Ct.Px}{ps:List (Nat×Nat)}(hps:ys.map AW=ps){j:Nat}(hj:j<ys.length):ps.getD j (0,0)=(ys[j].tb,ys[j].xb):=by
 subst hps;rw[Am (by simpa using hj),List.getElem_map];rfl
theorem Yf{ys:List Ct.Px}{j:Nat}(hj:j<ys.length):(ys.map Af)[j]'(by simpa using hj)=(ys[j].xb,ys[j].e):=List.getElem_map ..
theorem zU{α:Type}{l:List α}{j:Nat}(hj:j<l.length):l.set j l[j]=l:=by simp
theorem PE{S:dN}{n i k mb:Nat}{g:Ct.Ga}{s:Ct.St}{ys:List Ct.Px}{ps:List (Nat×Nat)}(h:SH B w (nR S n ys::eV mb (ys.map Af)::cR mb s::L))(hL:Ct.Ub i g s ys)(hps:ys.map AW=ps)(hk:k<ys.length):
  Calls prog 23 #[.agg (Ns (ps.getD k (0,0))).toArray] w λe w'=>e=.returned ↑true/\SH B w' (nR S n ys::eV mb (ys.map Af)::cR mb s::L):=by
 have h1:=(h.fr (.c r1 (.c r1 .n)))
 have h2:=SH.ET (i:=k) (by simpa using hk) h1
 have h3:=VG hk (h2.fr (.c r2 .n))
 rw[Yf hk]at h3
 obtain⟨z1,z2,u',hE⟩:=hL.ex _ (qR hk)
 rw[FK hps hk]
 refine(JG S n ys[k].tb ys[k].xb mb ys[k].k ys[k].e ys[k].u s (h3.fr (.c r0 (.c r1 .n))) z1 hE.same).mono ?_
 rintro e w' ⟨rfl,h⟩
 refine⟨rfl,?_⟩
 have h4:=VO (z:=ys[k]) hk (h.fr (.c r0 (.c r1 .n)))
 rw[zU hk]at h4
 have h5:=SH.Ut (i:=k) (zs:=ys.map Af) (by simpa using hk) (h4.fr (.c r1 (.c r1 .n)))
 rw[show (ys[k].xb,ys[k].e)=(ys.map Af)[k]'(by simpa using hk)from(Yf hk).symm,zU]at h5
 exact h5.fr (.c r2 .n)
theorem Jv{k mb:Nat}{s:Ct.St}{ys:List Ct.Px}{ps:List (Nat×Nat)}(h:SH B w (eV mb (ys.map Af)::cR mb s::L))(hps:ys.map AW=ps)(hk:k<ys.length):
  Calls prog 11 #[.pointer (some ⟨(ps.getD k (0,0)).2,0,none⟩)] w λe w'=>e=.returned (.bool (ys.getD k {}).e.done)/\SH B w' (eV mb (ys.map Af)::cR mb s::L):=by
 have h2:=SH.ET (i:=k) (by simpa using hk) h
 rw[Yf hk]at h2
 rw[FK hps hk]
 refine(vH ys[k].xb mb ⟨ys[k].e,s⟩ h2).mono ?_
 rintro e w' ⟨rfl,h⟩
 have h5:=SH.Ut (i:=k) (zs:=ys.map Af) (by simpa using hk) h
 rw[show (ys[k].xb,ys[k].e)=(ys.map Af)[k]'(by simpa using hk)from(Yf hk).symm,zU]at h5
 exact⟨by rw[Am hk],h5⟩
theorem XC{ab m n i k:Nat}{g:Ct.Ga}{s:Ct.St}{ys:List Ct.Px}{ps:List (Nat×Nat)}(h:SH B w (nR (cV ab) m ys::(cV ab).a s::L))(hm:m=n+1)(hL:Ct.Ub i g s ys)(hi:i<=1000)(hps:ys.map AW=ps)(hk:k<ys.length)(hd:ys[k].e.done=false):
  Calls prog 27 #[.pointer (some ⟨(ps.getD k (0,0)).1,0,none⟩)] w λe w'=>e=.returned (.tuple #[])/\SH B w' (nR (cV ab) n (ys.set k (ys[k].next s))::(cV ab).a ((ys[k].u).step s).1::L):=by
 subst hm
 obtain⟨z1,z2,u',hE⟩:=hL.ex _ (qR hk)
 have h2:=VG hk h
 rw[FK hps hk]
 have hu:ys[k].u.ended=none:=by
  have:=hE.same.1;rw[hd]at this
  cases hq:ys[k].u.ended with
  |none=>rfl
  |some r=>rw[hq]at this;cases this
 have hs:=hL.size
 refine(Om (cV ab) (AB ab) n ys[k].tb ys[k].k ys[k].u s (h2.fr (.c r0 (.c r1 .n))) ⟨hL.fit,by unfold Ct.cN;omega⟩ hu (by omega)).mono ?_
 rintro e w' ⟨rfl,h⟩
 have h3:=YA (Nat.le_succ n) (h.fr (.c r2 .n))
 exact⟨rfl,(VO (z:=ys[k].next s) hk (h3.fr (.c r1 (.c r0 .n))))⟩
theorem XT{i k mb:Nat}{g:Ct.Ga}{s:Ct.St}{ys:List Ct.Px}{ps:List (Nat×Nat)}(h:SH B w (eV mb (ys.map Af)::cR mb s::L))(hL:Ct.Ub i g s ys)(hi:i<=1000)(hps:ys.map AW=ps)(hk:k<ys.length)(hd:ys[k].e.done=false):
  Calls prog 19 #[.pointer (some ⟨(ps.getD k (0,0)).2,0,none⟩)] w λe w'=>∃g',Ct.Ub (i+1) g' (((ys[k].u).step s).1) (ys.set k (ys[k].next s))/\e=.returned (.tuple #[])/\SH B w' (eV mb ((ys.set k (ys[k].next s)).map Af)::cR mb ((ys[k].u).step s).1::L):=by
 have h2:=SH.ET (i:=k) (by simpa using hk) h
 rw[Yf hk]at h2
 rw[FK hps hk]
 obtain⟨a1,a2,a3,a4,a5,a6⟩:=hL.ready hi (qR hk)
 refine(Pq ys[k].xb mb ⟨ys[k].e,s⟩ Ct.FU h2 hd a1 a2 (by decide) a3 a4 a5 a6).mono ?_
 rintro e w' ⟨rfl,h,hok⟩
 obtain⟨q1,g',q2⟩:=hL.step hi hk hd hok
 have h5:=SH.Ut (i:=k) (zs:=ys.map Af) (by simpa using hk) h
 rw[q1]
 refine⟨g',q2,rfl,?_⟩
 rw[List.map_set];exact h5
theorem RQ{s:Ct.St}{ys:List Ct.Px}{ps:List (Nat×Nat)}(hps:ys.map AW=ps){k:Nat}(hk:k<ys.length):(ys.set k (ys[k].next s)).map AW=ps:=by
 rw[List.map_set,<- hps]
 have:AW (ys[k].next s)=(ys.map AW)[k]'(by simpa using hk):=by rw[List.getElem_map];rfl
 rw[this,zU]
theorem tF(ab:Nat)(s:Ct.St)(h:SH B w ((cV ab).a s::L))(hr:s.size<=100000000000)(hf:Ct.eK s):
  Calls prog 25 #[↑ab] w λe w'=>∃pn cn pc cc zs,zs.map Prod.fst=aW s/\e=.returned (.agg [.slice pn zs.length cn,.slice pc s.cells.length cc,↑(s.gen:Int)].toArray)/\SH B w' (aU 112 14 (.slice pn zs.length cn) zs.length (zs.flatMap cB)::aU 45 1 (.slice pc s.cells.length cc) s.cells.length (s.cells.map (Value.int .i64))::bE zs::(cV ab).a s::L):=by
 refine(Oi ab s (SH.so (S:=cV ab) h) hr hf).mono ?_
 rintro e w' ⟨pn,cn,pc,cc,zs,hz,rfl,h⟩
 exact⟨pn,cn,pc,cc,zs,hz,rfl,(SH.si (S:=cV ab) (h.fr (.c r3 (.c r3 .n)))).fr (.c r1 (.c r1 (.c r1 .n)))⟩
end Go.Q9
end
section
namespace Go.Q9
open Go.Proofs.Tryz
open Go.E
theorem aCi:prog.underlying 79=some (.slice 55):=by kernel_rfl
end Go.Q9
end
section
namespace Go.Q9
open Go.Proofs.Tryz
open Go.RowKit Go.E
attribute [local irreducible] gB wpS Go.E.X XS C jU kP fin Y U F Ca jT bl rb aU bV ex ce pu sK gK bK zK gM fO dH gP nE rD
theorem lS{s:Ct.St}(hf:Ct.eK s)(hr:s.size<=100000000000):∀n∈aW s,n.aA.length<=1000000/\n.aF.length<=200000000000/\n.aD<18446744073709551616:=by
 have hm:Ct.gY.aA.length<=1000000/\Ct.gY.aF.length<=200000000000/\Ct.gY.aD<18446744073709551616:=by decide
 intro n m
 unfold aW at m
 rcases List.mem_cons.1 m with rfl|m
 ·exact hm
 ·rcases List.mem_cons.1 m with rfl|m
  ·exact hm
  ·have h:=hf n m
   have h1:=zS h (by unfold Ct.St.size at hr;omega)
   exact⟨h1.1,h1.2,h.1.2.2.1⟩
variable{B w:World}{L:List As}
theorem GX(mb tb:Nat)(s:Ct.St)(ys:List Ct.Px)(ps:List (Nat×Nat))(pk:List Int)(ppl:Option Addr)(cpl:Nat)(h:SH B w (eV mb (ys.map Af)::cR mb s::bV 2 (.slice ppl ps.length cpl) ps.length (ps.flatMap Ns)::gQ tb pk::L))(hps:ys.map AW=ps)(h0:0<ps.length)(h1:ps.length<=100):
  Calls prog 26 #[.slice ppl ps.length cpl,↑tb] w λe w'=>∃k:Int,(0<=k->∃j:Nat,∃hj:j<ys.length,k=(j:Int)/\ys[j].e.done=false)/\e=.returned ↑k/\SH B w' (eV mb (ys.map Af)::cR mb s::bV 2 (.slice ppl ps.length cpl) ps.length (ps.flatMap Ns)::gQ tb pk::L):=by
 have hyl:ys.length=ps.length:=by rw[<- hps,mI]
 refine bZ func26 ntmps26 h λw h=>?_
 refine cG (LV _ _ h.to) λlf1 w h=>?_
 refine qc h (λhd2 w h=>?_) λhd2 w h=>?_
 refine Pv (fB _ _ _ h.to (by omega) (by omega)) λj3 hjj3 w h=>?_
 obtain⟨b4,o5,rfl⟩:=h.fq a3 (by omega)
 refine go h λw h=>?_
 refine st (ld One.h rfl ((h.rr a3).x wI (by decide) (by omega) (0,0) 1 _ rfl))<|go h λw h=>?_
 refine bA (Jv (k:=j3) h.to hps (by omega)) λw h=>?_
 refine qc h (λhd6 w h=>?_) λhd6 w h=>?_
 have hd7:=(lC _).mp hd6
 refine go h λw h=>?_
 exact rz ⟨_,(λ_=>⟨j3,by omega,rfl,by rw[<- Am (d:={}) (by omega)];exact hd7⟩),rfl,h.to⟩
 refine lp (α:=Nat) (λρ=>(.c 0 (.slice (some ⟨b4,o5,none⟩) ps.length cpl) (.c 22 ↑(ps.length:Int) (.c 23 (.int .i64 (ρ:Int)) .n)))) (λρ w=>SH B w (eV mb (ys.map Af)::cR mb s::gQ tb pk::bV 2 (.slice (some ⟨b4,o5,none⟩) ps.length cpl) ps.length (ps.flatMap Ns)::L)/\(ρ<=ps.length)) (λρ=>ps.length-ρ) 0 ⟨rfl,rfl,rfl,trivial⟩ ⟨h,Xe _⟩ ?_
 rintro k w ⟨h,hk⟩
 refine go h λw h=>?_
 refine qc h (λhd9 w h=>?_) λhd9 w h=>?_
 have hg10:=dP hd9
 refine go h λw h=>?_
 refine st (ld One.h rfl ((h.rr a3).x wI (by decide) (by omega) (0,0) 1 _ rfl))<|go h λw h=>?_
 refine bA (Jv (k:=k) h.to hps (by omega)) λw h=>?_
 refine qc h (λhd11 w h=>?_) λhd11 w h=>?_
 have hd12:=(lC _).mp hd11
 exact rz ⟨_,(λ_=>⟨k,by omega,rfl,by rw[<- Am (d:={}) (by omega)];exact hd12⟩),rfl,h.to⟩
 exact⟨(k+1),⟨rfl,rfl,rfl,trivial⟩,⟨h,by(try dsimp only);omega⟩,by(try dsimp only);omega⟩
 exact rz ⟨-1,(λq=>absurd q (by decide)),rfl,h.to⟩
 refine lp (α:=Nat) (λρ=>(.c 0 (.slice ppl ps.length cpl) (.c 22 ↑(ps.length:Int) (.c 23 (.int .i64 (ρ:Int)) .n)))) (λρ w=>SH B w (gQ tb pk::eV mb (ys.map Af)::cR mb s::bV 2 (.slice ppl ps.length cpl) ps.length (ps.flatMap Ns)::L)/\(ρ<=ps.length)) (λρ=>ps.length-ρ) 0 ⟨rfl,rfl,rfl,trivial⟩ ⟨h,Xe _⟩ ?_
 rintro k w ⟨h,hk⟩
 refine go h λw h=>?_
 refine qc h (λhd15 w h=>?_) λhd15 w h=>?_
 have hg16:=dP hd15
 refine go h λw h=>?_
 obtain⟨b17,o18,rfl⟩:=h.fq a3 (by omega)
 refine go h λw h=>?_
 refine st (ld One.h rfl ((h.rr a3).x wI (by decide) (by omega) (0,0) 1 _ rfl))<|go h λw h=>?_
 refine bA (Jv (k:=k) h.to hps (by omega)) λw h=>?_
 refine qc h (λhd19 w h=>?_) λhd19 w h=>?_
 have hd20:=(lC _).mp hd19
 exact rz ⟨_,(λ_=>⟨k,by omega,rfl,by rw[<- Am (d:={}) (by omega)];exact hd20⟩),rfl,h.to⟩
 exact⟨(k+1),⟨rfl,rfl,rfl,trivial⟩,⟨h.to,by(try dsimp only);omega⟩,by(try dsimp only);omega⟩
 exact rz ⟨-1,(λq=>absurd q (by decide)),rfl,h.to⟩
theorem LK(ab mb:Nat)(g:Ct.Ga)(s:Ct.St)(ys:List Ct.Px)(ps:List (Nat×Nat))(pk:List Int)(ppl pp:Option Addr)(cpl cp:Nat)(h:SH B w (nR (cV ab) 400 ys::eV mb (ys.map Af)::cR mb s::(cV ab).a s::bV 2 (.slice ppl ps.length cpl) ps.length (ps.flatMap Ns)::bV 1 (.slice pp pk.length cp) pk.length (pk.map (Value.int .i64))::L))(hL:Ct.Ub 0 g s ys)(hps:ys.map AW=ps)(h0:0<ps.length)(h1:ps.length<=100):
  Calls prog 9 #[↑ab,↑mb,.slice pp pk.length cp,.slice ppl ps.length cpl] w λe w'=>∃s',Ct.eK s'/\s'.size<=38100000000/\e=.returned ↑true/\SH B w' (cR mb s'::(cV ab).a s'::L):=by
 refine bZ func9 ntmps9 h λw h=>?_
 refine cG (NS _ _ _ h.to) λtb w h=>?_
 refine lp (α:=Nat×Ct.Ga×Ct.St×List Ct.Px) (λρ=>(.c 0 ↑ab (.c 1 ↑mb (.c 3 (.slice ppl ps.length cpl) (.c 9 ↑tb (.c 10 (.int .i64 (ρ.1:Int)) .n)))))) (λρ w=>SH B w (nR (cV ab) (400-ρ.1) ρ.2.2.2::eV mb (ρ.2.2.2.map Af)::cR mb ρ.2.2.1::(cV ab).a ρ.2.2.1::bV 2 (.slice ppl ps.length cpl) ps.length (ps.flatMap Ns)::gQ tb pk::L)/\(Ct.Ub ρ.1 ρ.2.1 ρ.2.2.1 ρ.2.2.2)/\(ρ.2.2.2.map AW=ps)/\(ρ.1<=400)) (λρ=>400-ρ.1) (0,g,s,ys) ⟨rfl,rfl,rfl,rfl,rfl,trivial⟩ ⟨h.to,hL,hps,(Xe _)⟩ ?_
 rintro⟨i,g,s,ys⟩ w ⟨h,hL,hps,hi⟩
 dsimp only at *
 refine go h λw h=>?_
 refine qc h (λhd1 w h=>?_) λhd1 w h=>?_
 have hg2:=dP hd1
 refine go h λw h=>?_
 have hyl:ys.length=ps.length:=by rw[<- hps,mI]
 refine lp (α:=Nat) (λρ=>(.c 0 ↑ab (.c 1 ↑mb (.c 3 (.slice ppl ps.length cpl) (.c 9 ↑tb (.c 10 ↑(i:Int) (.c 20 (.slice ppl ps.length cpl) (.c 21 ↑(ps.length:Int) (.c 22 (.int .i64 (ρ:Int)) .n))))))))) (λρ w=>SH B w (nR (cV ab) (400-i) ys::eV mb (ys.map Af)::cR mb s::(cV ab).a s::bV 2 (.slice ppl ps.length cpl) ps.length (ps.flatMap Ns)::gQ tb pk::L)/\(ρ<=ps.length)) (λρ=>ps.length-ρ) 0 ⟨rfl,rfl,rfl,rfl,rfl,rfl,rfl,rfl,trivial⟩ ⟨h,Xe _⟩ ?_
 rintro k w ⟨h,hk⟩
 refine go h λw h=>?_
 rcases mD (decide (((k:Int):Int)<(ps.length:Int)))with hd3|hd3
 have hg4:=dP hd3
 refine go h λw h=>?_
 obtain⟨b5,o6,rfl⟩:=h.fq a4 (by omega)
 refine go h λw h=>?_
 refine st (gJ rfl ((h.rr a4).x wI (by decide) (by omega) (0,0)) Row.h)<|go h λw h=>?_
 refine jA h λb7 w h=>?_
 refine bA (PE (k:=k) h.to hL hps (by omega)) λw h=>?_
 exact⟨(k+1),⟨rfl,rfl,rfl,rfl,rfl,rfl,rfl,rfl,trivial⟩,⟨h.to,by(try dsimp only);omega⟩,by(try dsimp only);omega⟩
 have hg8:=bI hd3
 refine cf rfl hd3<|xt<|tx<|tx<|be<|nx<|?_
 refine sm (λe w=>Sub 71 e (.c 0 ↑ab (.c 1 ↑mb (.c 3 (.slice ppl ps.length cpl) (.c 9 ↑tb (.c 10 ↑(i:Int) .n)))))/\SH B w (nR (cV ab) (400-i) ys::eV mb (ys.map Af)::cR mb s::(cV ab).a s::bV 2 (.slice ppl ps.length cpl) ps.length (ps.flatMap Ns)::gQ tb pk::L)) ?_ ?_
 refine go h λw h=>?_
 have hrz:s.size<=100000000000:=by have:=hL.size;omega
 have hfz:=lS hL.fit hrz
 have h:=h.fr (.c r2 .n)
 obtain⟨⟨pn,cn,pc,cc,zs⟩,hz0,h⟩:=h.mo
 have h:SH B w (bl mb ([.slice pn zs.length cn,.slice pc s.cells.length cc,↑(s.gen:Int),↑(s.acc:Int)]) 69::aU 112 14 (.slice pn zs.length cn) zs.length (zs.flatMap cB)::aU 45 1 (.slice pc s.cells.length cc) s.cells.length (s.cells.map (Value.int .i64))::bE zs::nR (cV ab) (400-i) ys::eV mb (ys.map Af)::(cV ab).a s::bV 2 (.slice ppl ps.length cpl) ps.length (ps.flatMap Ns)::gQ tb pk::L):=h
 have hzs:zs.map Prod.fst=aW s:=hz0
 clear hz0
 rcases mD (decide (((i:Int):Int)<60))with hd9|hd9<;>refine go h λw h=>?_
 have hg10:=dP hd9
 refine dZ [1,3,5,7,9,11,13,15,17,21,23,25,27,18,28,31,33] (by kernel_rfl) h (.c r0 .n) λw h=>go h λw h=>?_
 refine tk (λW H=>gJ (cs:=[.slice pn zs.length cn,.slice pc s.cells.length cc,↑(s.gen:Int)]) rfl (eP (H.b a0) 0 rfl) Row.h)<|go h λw h=>?_
 refine cs (ca eF rfl) ((tF ab s (h.fr (.c r6 .n)) hrz hL.fit).mono ?_)
 rintro _ w ⟨pnz12,cnz13,pcz14,ccz15,zz11,hzz16,rfl,h⟩
 refine⟨_,rfl,h.hs (.c r4 .n),?_⟩
 refine oX rfl rfl rfl<|?_
 refine go h λw h=>?_
 refine gO (Lb _ _ _ _ _ _ _ _ _ _ _ h.to hzz16 hzs hrz hfz) λw h=>?_
 have h:=SH.mi ⟨_,_,_,_,_⟩ hzs (h.fr (.c r4 (.c r0 (.c r0 (.c r0 .n)))))
 exact⟨⟨rfl,rfl,rfl,rfl,rfl,trivial⟩,h.to⟩
 have hg17:=bI hd9
 rcases mD ((((i:Int)).tmod (16):Int)==0)with hd18|hd18<;>refine go h λw h=>?_
 have hg19:=eq_of_beq hd18
 refine dZ [1,3,5,7,9,11,13,15,17,21,23,25,27,18,28,31,33] (by kernel_rfl) h (.c r0 .n) λw h=>go h λw h=>?_
 refine tk (λW H=>br rfl rfl (by omega))<|go h λw h=>?_
 refine tk (λW H=>gJ (cs:=[.slice pn zs.length cn,.slice pc s.cells.length cc,↑(s.gen:Int)]) rfl (eP (H.b a0) 0 rfl) Row.h)<|go h λw h=>?_
 refine cs (ca eF rfl) ((tF ab s (h.fr (.c r6 .n)) hrz hL.fit).mono ?_)
 rintro _ w ⟨pnz21,cnz22,pcz23,ccz24,zz20,hzz25,rfl,h⟩
 refine⟨_,rfl,h.hs (.c r4 .n),?_⟩
 refine oX rfl rfl hd18<|?_
 refine go h λw h=>?_
 refine gO (Lb _ _ _ _ _ _ _ _ _ _ _ h.to hzz25 hzs hrz hfz) λw h=>?_
 have h:=SH.mi ⟨_,_,_,_,_⟩ hzs (h.fr (.c r4 (.c r0 (.c r0 (.c r0 .n)))))
 exact⟨⟨rfl,rfl,rfl,rfl,rfl,trivial⟩,h.to⟩
 have hg26:=Pe hd18
 refine dZ [1,3,5,7,9,11,13,15,17,21,23,25,27,18,28,31,33] (by kernel_rfl) h .n λw h=>go h λw h=>?_
 refine tk (λW H=>br rfl rfl (by omega))<|go h λw h=>?_
 have h:=SH.mi ⟨_,_,_,_,_⟩ hzs (h.fr (.c r0 (.c r0 (.c r0 (.c r0 .n)))))
 exact⟨⟨rfl,rfl,rfl,rfl,rfl,trivial⟩,h.to⟩
 rintro e w ⟨hE,h⟩
 refine C.sub hE ?_
 clear hE e
 refine go h λw h=>?_
 refine Pv (GX _ _ _ _ _ _ _ _ h.to hps h0 h1) λkk27 hkk28 w h=>?_
 refine qc h (λhd29 w h=>?_) λhd29 w h=>?_
 have hg30:=dP hd29
 refine go h λw h=>?_
 have hrz:s.size<=100000000000:=by have:=hL.size;omega
 have hfz:=lS hL.fit hrz
 have h:=h.fr (.c r1 .n)
 obtain⟨⟨pn,cn,pc,cc,zs⟩,hz0,h⟩:=h.mo
 have h:SH B w (bl mb ([.slice pn zs.length cn,.slice pc s.cells.length cc,↑(s.gen:Int),↑(s.acc:Int)]) 69::aU 112 14 (.slice pn zs.length cn) zs.length (zs.flatMap cB)::aU 45 1 (.slice pc s.cells.length cc) s.cells.length (s.cells.map (Value.int .i64))::bE zs::eV mb (ys.map Af)::bV 2 (.slice ppl ps.length cpl) ps.length (ps.flatMap Ns)::gQ tb pk::nR (cV ab) (400-i) ys::(cV ab).a s::L):=h
 have hzs:zs.map Prod.fst=aW s:=hz0
 clear hz0
 refine dZ [1,5,7,9,11,2,12,14] (by kernel_rfl) h (.c r0 .n) λw h=>go h λw h=>?_
 refine tk (λW H=>gJ (cs:=[.slice pn zs.length cn,.slice pc s.cells.length cc,↑(s.gen:Int)]) rfl (eP (H.b a0) 0 rfl) Row.h)<|go h λw h=>?_
 refine cs (ca eF rfl) ((tF ab s (h.fr (.c r8 .n)) hrz hL.fit).mono ?_)
 rintro _ w ⟨pnz32,cnz33,pcz34,ccz35,zz31,hzz36,rfl,h⟩
 refine⟨_,rfl,h.hs (.c r4 .n),?_⟩
 refine go h λw h=>?_
 refine gO (Lb _ _ _ _ _ _ _ _ _ _ _ h.to hzz36 hzs hrz hfz) λw h=>?_
 have h:=SH.mi ⟨_,_,_,_,_⟩ hzs (h.fr (.c r4 (.c r0 (.c r0 (.c r0 .n)))))
 exact rz ⟨s,hL.fit,(by have:=hL.size;omega),rfl,h.to⟩
 have hg37:=bI hd29
 refine go h λw h=>?_
 obtain⟨jj,hjj,hje,hdd⟩:=hkk28 (by have:=bI hd29;omega)
 subst hje
 have hyl:ys.length=ps.length:=by rw[<- hps,mI]
 refine go h λw h=>?_
 obtain⟨b38,o39,rfl⟩:=h.fq a2 (by omega)
 refine go h λw h=>?_
 refine st (ld One.h rfl ((h.rr a2).x wI (by decide) (by omega) (0,0) 0 _ rfl))<|go h λw h=>?_
 refine bA (XC (n:=400-(i+1)) (k:=jj) h.to (by omega) hL (by omega) hps hjj hdd) λw h=>?_
 refine st (ld One.h rfl ((h.rr a4).x wI (by decide) (by omega) (0,0) 1 _ rfl))<|go h λw h=>?_
 refine Pv (XT (k:=jj) h.to hL (by omega) hps hjj hdd) λg2 hL2 w h=>?_
 exact⟨((i+1),g2,((ys[jj].u).step s).1,(ys.set jj (ys[jj].next s))),⟨rfl,rfl,rfl,rfl,rfl,trivial⟩,⟨h.to,hL2,(RQ hps hjj),by(try dsimp only);omega⟩,by(try dsimp only);omega⟩
 have hg40:=bI hd1
 refine go h λw h=>?_
 have hrz:s.size<=100000000000:=by have:=hL.size;omega
 have hfz:=lS hL.fit hrz
 have h:=h.fr (.c r2 .n)
 obtain⟨⟨pn,cn,pc,cc,zs⟩,hz0,h⟩:=h.mo
 have h:SH B w (bl mb ([.slice pn zs.length cn,.slice pc s.cells.length cc,↑(s.gen:Int),↑(s.acc:Int)]) 69::aU 112 14 (.slice pn zs.length cn) zs.length (zs.flatMap cB)::aU 45 1 (.slice pc s.cells.length cc) s.cells.length (s.cells.map (Value.int .i64))::bE zs::nR (cV ab) (400-i) ys::eV mb (ys.map Af)::(cV ab).a s::bV 2 (.slice ppl ps.length cpl) ps.length (ps.flatMap Ns)::gQ tb pk::L):=h
 have hzs:zs.map Prod.fst=aW s:=hz0
 clear hz0
 refine dZ [1,5,7,9,11,2,12,14] (by kernel_rfl) h (.c r0 .n) λw h=>go h λw h=>?_
 refine tk (λW H=>gJ (cs:=[.slice pn zs.length cn,.slice pc s.cells.length cc,↑(s.gen:Int)]) rfl (eP (H.b a0) 0 rfl) Row.h)<|go h λw h=>?_
 refine cs (ca eF rfl) ((tF ab s (h.fr (.c r6 .n)) hrz hL.fit).mono ?_)
 rintro _ w ⟨pnz42,cnz43,pcz44,ccz45,zz41,hzz46,rfl,h⟩
 refine⟨_,rfl,h.hs (.c r4 .n),?_⟩
 refine go h λw h=>?_
 refine gO (Lb _ _ _ _ _ _ _ _ _ _ _ h.to hzz46 hzs hrz hfz) λw h=>?_
 have h:=SH.mi ⟨_,_,_,_,_⟩ hzs (h.fr (.c r4 (.c r0 (.c r0 (.c r0 .n)))))
 exact rz ⟨s,hL.fit,(by have:=hL.size;omega),rfl,h.to⟩
end Go.Q9
end
section
namespace Go.Q9
open Go.Proofs.Tryz
open Go.E
end Go.Q9
end
section
namespace Go.Q9
open Go.Proofs.Tryz
open Go.RowKit Go.E
attribute [local irreducible] gB wpS
variable{B w:World}{L:List As}{β:Type}
theorem aBm(h:SH B w L)(m:At L Ba):SH B w (Ba::L):=h.dup m λO R hA=>⟨R,⟨hA.1,λ_ h=>h,hA.2.2⟩,λ_ h=>h⟩
theorem P0{ρ:β->Ct.Result}{M:β->As}(S:dN)(hM:∀w,PK S.t S.x S.ab w)(n tb k:Nat)(u:Ct.I β)(s:Ct.St)(h:SH B w (fD S (Ak ρ M) (n+1) tb u k::S.a s::L))(hs:Ct.Rm 101 s)(hu:u.ended=none)(hk:k<=9000000000000000000):
  Calls prog 27 #[↑tb] w λe w'=>e=.returned (.tuple #[])/\SH B w' (fD S (Ak ρ M) n tb (u.step s).2 (k+1)::S.a (u.step s).1::L):=by
 have hr:=TT h
 cases u with
 |ret z=>cases hu
 |load a f=>
  refine(XK S (S.a s) n tb k a (s.load a).2 f (s.load a).1 s (λh=>h) ⟨_,_,λw=>(hM w).load,eF,λB w L h=>JQ S s a h hs⟩ h (SY hs a) (hs.less (by decide)) hk).mono ?_
  rintro e w' ⟨s',u',hq,rfl,h⟩
  show _/\SH B w' (fD S (Ak ρ M) n tb ((f (s.load a).2).head (s.load a).1).2 (k+1)::S.a ((f (s.load a).2).head (s.load a).1).1::L)
  rw[hq];exact⟨rfl,h⟩
 |eA a o x f=>
  refine(W5 S (S.a s) n tb k a o x (s.eA a o x).2 f (s.eA a o x).1 s (λh=>h) ⟨_,_,λw=>(hM w).eA,eF,λB w L h=>NE S s a o x h hs⟩ h (YS hs a o x) (hs.less (by decide)) hk).mono ?_
  rintro e w' ⟨s',u',hq,rfl,h⟩
  show _/\SH B w' (fD S (Ak ρ M) n tb ((f (s.eA a o x).2).head (s.eA a o x).1).2 (k+1)::S.a ((f (s.eA a o x).2).head (s.eA a o x).1).1::L)
  rw[hq];exact⟨rfl,h⟩
 |_=>exact hr.elim
theorem aB2{rhe:β->Ct.Result}{M:β->As}(S:dN)(hM:∀w,PK S.t S.x S.ab w)(n tb k z Cx:Nat)(p:Nat->Ct.St×Ct.I β)(h:SH B w (fD S (Ak rhe M) n tb (p 0).2 k::S.a (p 0).1::L))(hstep:∀i,p (i+1)=(p i).2.step (p i).1)(hrun:∀i,i<z->(p i).2.ended.isSome=false)(hend:(p z).2.ended.isSome=true)(hzm:z<=Cx)(hzn:z<=n)(hrm:∀i,i<z->Ct.Rm 101 (p i).1)(hk:k+z<=1000000000000)(hm:Cx<=1000000000000):
  Calls prog 34 #[↑tb,↑(Cx:Int)] w λe w'=>e=.returned ↑(z:Int)/\SH B w' (fD S (Ak rhe M) (n-z) tb (p z).2 (k+z)::S.a (p z).1::L):=by
 refine Ea (args:=[_,_]) func34 rfl ntmps34 rfl ?_
 refine sq<|rg<|st (sg rfl)<|xe<|nx<|sq<|rg<|st (sg rfl)<|xe<|nx<|sq<|bk<|?_
 refine lp (α:=Nat) (λρ=>(.c 0 ↑tb (.c 1 ↑(Cx:Int) (.c 5 (.int .i64 (ρ:Int)) .n)))) (λρ w=>SH B w (fD S (Ak rhe M) (n-ρ) tb (p ρ).2 (k+ρ)::S.a (p ρ).1::L)/\(ρ<=z)) (λρ=>z-ρ) 0 ⟨rfl,rfl,rfl,trivial⟩ ⟨h,Xe _⟩ ?_
 rintro i w ⟨h,hi⟩
 refine sq<|sq<|?_
 have h:=h.fr (.c r0 .n)
 obtain⟨c,h⟩:=SH.Z6 h
 have hc:=vV (h.fr (.c r1 .n))
 refine rg<|st (mv rfl)<|st (mv rfl)<|st (bi rfl rfl rfl)<|st (mv rfl)<|?_
 rcases mD (decide (((i:Int):Int)<(Cx:Int)))with hd1|hd1
 ·have hg2:=dP hd1
  refine gT rfl rfl hd1<|st (mv rfl)<|gT rfl rfl hd1<|cl (ca eF rfl) ((Aa S tb c (k+i) false (h.fr (.c r0 .n))).mono ?_)
  rintro _ w ⟨rfl,h⟩
  refine⟨_,rfl,?_⟩
  refine gT rfl rfl hd1<|st (nt rfl)<|st (pT rfl hd1 rfl)<|st (mv rfl)<|?_
  rcases mD (!((c.kind:Int)==0))with hd3|hd3
  ·have hd4:((c.kind:Int)==0)=false:=(lC _).mp hd3
   have hg5:=Pe hd4
   refine gT rfl rfl hd3<|st (mv rfl)<|gT rfl rfl hd3<|st (nc rfl rfl)<|gT rfl rfl hd3<|st (fa Bv rfl)<|gT rfl rfl hd3<|st (ld xN rfl (h.c a0 rfl))<|gT rfl rfl hd3<|st (nt rfl)<|st (pT rfl hd3 rfl)<|xe<|nx<|cT rfl<|sk<|nx<|bk<|sq<|?_
   have h:=SH.X6 (h.fr (.c r0 (.c r0 .n)))
   have hiz:i<z:=by
    rcases PQ i z with hz|hz
    ·exact hz
    ·obtain rfl:i=z:=by omega
     have h1:=hc.1.symm.trans hd4
     rw[hend]at h1;cases h1
   rw[show n-i=n-(i+1)+1 by omega]at h
   refine rg<|st (mv rfl)<|cl (ca eF rfl) ((P0 S hM (n-(i+1)) tb (k+i) (p i).2 (p i).1 (h.fr (.c r0 (.c r0 .n))) (hrm i hiz) (by have:=hrun i hiz;simpa using this) (by omega)).mono ?_)
   rintro _ w ⟨rfl,h⟩
   rw[<- hstep i]at h
   refine⟨_,rfl,?_⟩
   refine xe<|nx<|rg<|st (mv rfl)<|st (bw rfl rfl (gN (c:=((i+1:Nat):Int)) (by omega) (by omega) (by omega)))<|st (sg rfl)<|xe<|bn<|nx<|?_
   exact⟨((i+1)),⟨rfl,rfl,rfl,trivial⟩,⟨h,hiz⟩,by(try dsimp only);omega⟩
  ·have hd6:((c.kind:Int)==0)=true:=(AD _).mp hd3
   have hg7:=eq_of_beq hd6
   refine gF rfl rfl hd3<|gF rfl rfl hd3<|gF rfl rfl hd3<|gF rfl rfl hd3<|gF rfl rfl hd3<|st (pF rfl hd3 rfl)<|xe<|nx<|cF rfl<|xt<|tx<|tx<|be<|nx<|sq<|?_
   have h:=SH.X6 (h.fr (.c r0 (.c r0 .n)))
   refine rg<|st (mv rfl)<|st (sg rfl)<|xe<|nx<|rt<|?_
   refine rr (jP results34 rfl)<|?_
   have hiz:i=z:=by
    rcases PQ i z with hz|hz
    ·have h1:=hc.1.symm.trans hd6
     rw[hrun i hz]at h1;cases h1
    ·omega
   subst hiz
   exact⟨rfl,h⟩
 ·have hg8:=bI hd1
  refine gF rfl rfl hd1<|gF rfl rfl hd1<|gF rfl rfl hd1<|st (pF rfl hd1 rfl)<|st (mv rfl)<|gF rfl rfl rfl<|gF rfl rfl rfl<|gF rfl rfl rfl<|gF rfl rfl rfl<|gF rfl rfl rfl<|st (pF rfl rfl rfl)<|xe<|nx<|cF rfl<|xt<|tx<|tx<|be<|nx<|sq<|?_
  have h:=SH.X6 (h.fr (.c r0 (.c r0 .n)))
  refine rg<|st (mv rfl)<|st (sg rfl)<|xe<|nx<|rt<|?_
  refine rr (jP results34 rfl)<|?_
  have hiz:i=z:=by
   rcases PQ i z with hz|hz
   ·omega
   ·omega
  subst hiz
  exact⟨rfl,h⟩
end Go.Q9
end
section
namespace Go.Ct
def Dw(s:St)(t:bC):Int:=
 bif (s.node (s.load t.root).2).kind==8 then(bif (s.load (s.node (s.load t.root).2).status).2==1 then(s.node (s.load t.root).2).new else(s.node (s.load t.root).2).dC)else(s.load t.root).2
def rootOf(s:St)(t:bC):Int×Bool:=bif (s.node (Dw s t)).kind != 2 then(0,false)else(Dw s t,true)
def xR(s:St)(i:Int):Int:=(s.load (s.node i).main).2
def uW(s:St)(i:Int):Int:=(s.load (s.node (xR s i)).prev).2
def Bp(s:St)(i:Int):Int:=bif (s.node (uW s i)).kind==7 then(s.node (uW s i)).dC else uW s i
def jM(s:St)(i:Int):Int×Bool:=
 bif (s.node i).kind != 2 then(0,false)else bif !(s.node (xR s i)).bM then(0,false)else bif uW s i==0 then(xR s i,true)
 else bif !(s.node (Bp s i)).bM then(0,false)else(Bp s i,true)
structure Flat(s:St)(t:bC)(r m:Int):Prop where
 root:rootOf s t=(r,true)
 lo:1<=r
 hi:r<=((2+s.aG.length:Nat):Int)
 body:jM s r=(m,true)
 kind:(s.node m).kind=3
 br:∀k,k<(s.node m).aA.length->(s.node ((s.node m).aA.getD k 0)).kind=4
end Go.Ct
end
section
namespace Go.Ct
def QD:bC:=(mG {}).2
def WQ:Call:={kind:=8,aE:=QD,key:=⟨#[97]⟩,value:=8}
def XO:Nat->X
 |0=>bX (bY WQ FU) 0 ⟨{call:=WQ},(mG {}).1⟩
 |i+1=>bX (bY (XO i).e.call FU) 1 (XO i)
theorem RG:∀i,i<8->(XO i).e.done=false:=by decide+kernel
theorem TZ:(XO 8).e.done=true:=by decide+kernel
def AQ:St:=(XO 8).s
def WY:St:={AQ with acc:=0}
set_option maxRecDepth 100000
instance (n:Node)(L:Nat):Decidable (n.Fit L):=by unfold Node.Fit Node.fits;infer_instance
theorem EB:∀n∈WY.aG,n.Fit WY.aG.length:=by decide+kernel
theorem LI:WY.size<=1000:=by decide+kernel
theorem XR:Rm 60 WY:=⟨EB,by have:=LI;unfold cN;omega⟩
theorem BP:iV AQ:=⟨by decide+kernel,by decide+kernel,by decide+kernel,by decide+kernel,by decide+kernel,by decide+kernel,by decide+kernel⟩
theorem QB:AQ.size<=1000:=by decide+kernel
theorem TW:eK AQ:=EB
theorem GR:WQ.key.size<=9223372036854775807:=by decide+kernel
end Go.Ct
end
section
namespace Go.Ct
def wkT:bC:={root:=QD.root,readOnly:=true}
theorem L7{α:Type}{u:I α}(h:u.ended.isSome=true)(d:α):u=.ret (u.ended.getD d):=by cases u<;>first|rfl|cases h
set_option maxRecDepth 100000
end Go.Ct
end
section
namespace Go.Q9
open Go.Proofs.Tryz
open Go.E
theorem VR:prog.underlying 29=some (.pointer 110):=by kernel_rfl
end Go.Q9
end
section
namespace Go.Q9
open Go.Proofs.Tryz
open Go.RowKit Go.E
attribute [local irreducible] gB wpS
variable{B w:World}{L:List As}
theorem l8(mb:Nat)(h:SH B w (cR mb {}::L)):Calls prog 38 #[↑mb] w λe w'=>e=.returned (.agg (cU Ct.QD).toArray)/\SH B w' (cR mb (Ct.mG {}).1::L):=Jf mb {} h (by decide)
theorem XB(N:Nat)(h:N<=1000000000):Ct.qV N {}:=⟨⟨λp hp=>(by cases hp),by show 0+N<=1000000000;omega,Xe _⟩,λ_=>rfl⟩
end Go.Q9
end
section
namespace Go.Q9
open Go.Proofs.Tryz
open Go.E
theorem aBf:KY prog 103=some ([.nilIface,.pointer none,.int .i64 0],[(0,1),(1,1),(2,1)]):=by kernel_rfl
theorem KG:fo prog 103 0=some 0:=by kernel_rfl
theorem W4:fo prog 103 1=some 1:=by kernel_rfl
theorem Bh:fo prog 103 2=some 2:=by kernel_rfl
theorem Au:fo prog 48 1=some 1:=by kernel_rfl
theorem E':fv prog 48 1=some (1,1,false):=by kernel_rfl
end Go.Q9
end
