/- Parts of a proof: Lq, Ayj, Lr, Wv, Ayl, Wa, Lu, Aym, Wx, Ayo, Pz, Ayp. -/
import Derived.Test.YtlpbjpanggcbbaaGreatW39
set_option linter.unusedVariables false
set_option linter.unusedSimpArgs false
set_option maxRecDepth 100000
set_option maxHeartbeats 4000000
section
namespace Go.Q9
open Go.Proofs.Tryz
open Go.RowKit Go.E
variable{B w:World}{L:List As}
theorem RK(a:Addr)(w:World):(method 397 27 (.pointer (some a)) "Node").run prog w=.ok (35,.pointer (some a)) w:=by kernel_rfl
theorem QF(a:Addr)(w:World):(method 397 27 (.pointer (some a)) "Alloc").run prog w=.ok (335,.pointer (some a)) w:=by kernel_rfl
theorem BL(a:Addr)(w:World):(method 397 27 (.pointer (some a)) "NewCell").run prog w=.ok (338,.pointer (some a)) w:=by kernel_rfl
theorem IR(a:Addr)(w:World):(method 397 27 (.pointer (some a)) "NewGen").run prog w=.ok (339,.pointer (some a)) w:=by kernel_rfl
theorem QZ(a:Addr)(w:World):(method 397 27 (.pointer (some a)) "Load").run prog w=.ok (337,.pointer (some a)) w:=by kernel_rfl
theorem YK(a:Addr)(w:World):(method 397 27 (.pointer (some a)) "CAS").run prog w=.ok (336,.pointer (some a)) w:=by kernel_rfl
theorem XH(a:Addr)(w:World):(nilAhead 397 27 (.pointer (some a)) "Alloc").run prog w=.ok (some false) w:=by kernel_rfl
theorem AB(ab:Nat)(w:World):Rl 27 (QQ ab) ab w:=⟨RK _ w,QF _ w,BL _ w,IR _ w,QZ _ w,YK _ w⟩
def cV(ab:Nat):dN:=⟨27,QQ ab,ab,[],λ_=>AB ab _,λw=>XH _ w⟩
theorem LX{ab:Nat}{s:Ct.St}(h:SH B w (wW ab s::L)):SH B w ((cV ab).a s::L):=SH.si (S:=cV ab) (((SH.is (l:=[]) h).fr (.c r1 .n)))
theorem VB{ab:Nat}{s:Ct.St}(h:SH B w ((cV ab).a s::L)):SH B w (wW ab s::L):=(SH.so (S:=cV ab) h).fr (.c r0 .n) |>.fr (.c r1 .n) |>.drop
def Af(z:Ct.Px):Nat×Ct.Ex:=(z.xb,z.e)
def AW(z:Ct.Px):Nat×Nat:=(z.tb,z.xb)
def Ns(a:Nat×Nat):List Value:=[↑a.1,↑a.2]
theorem wI(a:Nat×Nat):(Ns a).length=2:=rfl
def BM(S:dN)(n:Nat)(z:Ct.Px):As:=eN S n z.tb z.u z.k
def nR(S:dN)(n:Nat)(ys:List Ct.Px):As:=se (ys.map (BM S n))
theorem VG{S:dN}{n j:Nat}{ys:List Ct.Px}(hj:j<ys.length)(h:SH B w (nR S n ys::L)):SH B w (BM S n ys[j]::nR S n (ys.eraseIdx j)::L):=by
 have h1:=(SH.se h).fr (.c (Tu hj) .n)
 have h2:SH B w ((ys.eraseIdx j).map (BM S n)++BM S n ys[j]::L):=SH.back (A:=BM S n ys[j]) h1 Bn
 exact(SH.is (l:=(ys.eraseIdx j).map (BM S n)) h2).fr (.c r1 .n)
theorem VO{S:dN}{n j:Nat}{ys:List Ct.Px}{z:Ct.Px}(hj:j<ys.length)(h:SH B w (BM S n z::nR S n (ys.eraseIdx j)::L)):SH B w (nR S n (ys.set j z)::L):=by
 have h2:SH B w ((ys.eraseIdx j).map (BM S n)++BM S n z::L):=SH.se (h.fr (.c r1 .n))
 have h3:SH B w (BM S n z::((ys.eraseIdx j).map (BM S n)++L)):=h2.fr (.c Bn .n)
 exact SH.is (l:=(ys.set j z).map (BM S n)) (SH.back (A:=BM S n z) h3 (zF hj))
theorem CI{α:Type}{f g:α->As}(hi:∀a w O R,(f a).p w O R->(g a).p w O R){l:List α}{O R:Nat->Prop}(h:(se (l.map f)).p w O R):(se (l.map g)).p w O R:=by
 obtain⟨Os,Rs,h1,h2,h3,h4⟩:=h
 refine⟨Os,Rs,λi a ha=>?_,by rw[yM]at h2 ⊢;exact h2,by rw[yM]at h3 ⊢;exact h3,by rw[yM]at h4 ⊢;exact h4⟩
 rw[Yv]at ha
 cases hl:l[i]? with
 |none=>rw[hl]at ha;cases ha
 |some x=>
  rw[hl]at ha;injection ha with ha;subst ha
  exact hi x w _ _ (h1 i (f x) (by rw[Yv,hl];rfl))
theorem YA{S:dN}{m n:Nat}{ys:List Ct.Px}(hmn:m<=n)(h:SH B w (nR S n ys::L)):SH B w (nR S m ys::L):=h.imp λO R=>CI λz w O R hz=>by
 obtain⟨c,hz⟩:=hz
 exact⟨c,Ae hz λO R=>yG hmn z.u c w O R⟩
theorem ZR{S:dN}{n tb:Nat}{u:Ct.I Ct.Result}{ys:List Ct.Px}{xb:Nat}{e:Ct.Ex}(h:SH B w (eN S n tb u 0::nR S n ys::L)):SH B w (nR S n (ys++[{tb:=tb,xb:=xb,e:=e,u:=u}])::L):=by
 have h2:SH B w (ys.map (BM S n)++eN S n tb u 0::L):=SH.se (h.fr (.c r1 .n))
 refine SH.is (l:=(ys++[({tb:=tb,xb:=xb,e:=e,u:=u}:Ct.Px)]).map (BM S n)) ?_
 rw[Ft,dP];exact h2
theorem i9{S:dN}{n:Nat}(h:SH B w L):SH B w (nR S n []::L):=SH.is (l:=[]) h
theorem Am{α:Type}{l:List α}{j:Nat}{d:α}(hj:j<l.length):l.getD j d=l[j]:=by rw[Tx,DM hj];rfl
theorem FK{ys:List Ct.Px}{ps:List (Nat×Nat)}(hps:ys.map AW=ps){j:Nat}(hj:j<ys.length):ps.getD j (0,0)=(ys[j].tb,ys[j].xb):=by
 subst hps;rw[Am (by simpa using hj),List.getElem_map];rfl
theorem Yf{ys:List Ct.Px}{j:Nat}(hj:j<ys.length):(ys.map Af)[j]'(by simpa using hj)=(ys[j].xb,ys[j].e):=List.getElem_map ..
theorem zU{α:Type}{l:List α}{j:Nat}(hj:j<l.length):l.set j l[j]=l:=by simp
theorem PE{S:dN}{n i k mb:Nat}{g:Ct.Ga}{s:Ct.St}{ys:List Ct.Px}{ps:List (Nat×Nat)}(h:SH B w (nR S n ys::eV mb (ys.map Af)::cR mb s::L))(hL:Ct.Ub i g s ys)(hps:ys.map AW=ps)(hk:k<ys.length):
  Calls prog 36 #[.agg (Ns (ps.getD k (0,0))).toArray] w λe w'=>e=.returned ↑true/\SH B w' (nR S n ys::eV mb (ys.map Af)::cR mb s::L):=by
 have h1:=(h.fr (.c r1 (.c r1 .n)))
 have h2:=SH.ET (i:=k) (by simpa using hk) h1
 have h3:=VG hk (h2.fr (.c r2 .n))
 rw[Yf hk]at h3
 obtain⟨z1,z2,u',hE⟩:=hL.ex _ (cE hk)
 rw[FK hps hk]
 refine(JG S n ys[k].tb ys[k].xb mb ys[k].k ys[k].e ys[k].u s (h3.fr (.c r0 (.c r1 .n))) z1 hE.same).mono ?_
 rintro e w' ⟨rfl,h⟩
 refine⟨rfl,?_⟩
 have h4:=VO (z:=ys[k]) hk (h.fr (.c r0 (.c r1 .n)))
 rw[zU hk]at h4
 have h5:=SH.Ut (i:=k) (zs:=ys.map Af) (by simpa using hk) (h4.fr (.c r1 (.c r1 .n)))
 rw[show (ys[k].xb,ys[k].e)=(ys.map Af)[k]'(by simpa using hk)from(Yf hk).symm,zU]at h5
 exact h5.fr (.c r2 .n)
theorem Jv{k mb:Nat}{s:Ct.St}{ys:List Ct.Px}{ps:List (Nat×Nat)}(h:SH B w (eV mb (ys.map Af)::cR mb s::L))(hps:ys.map AW=ps)(hk:k<ys.length):
  Calls prog 59 #[.pointer (some ⟨(ps.getD k (0,0)).2,0,none⟩)] w λe w'=>e=.returned (.bool (ys.getD k {}).e.done)/\SH B w' (eV mb (ys.map Af)::cR mb s::L):=by
 have h2:=SH.ET (i:=k) (by simpa using hk) h
 rw[Yf hk]at h2
 rw[FK hps hk]
 refine(vH ys[k].xb mb ⟨ys[k].e,s⟩ h2).mono ?_
 rintro e w' ⟨rfl,h⟩
 have h5:=SH.Ut (i:=k) (zs:=ys.map Af) (by simpa using hk) h
 rw[show (ys[k].xb,ys[k].e)=(ys.map Af)[k]'(by simpa using hk)from(Yf hk).symm,zU]at h5
 exact⟨by rw[Am hk],h5⟩
theorem XC{ab m n i k:Nat}{g:Ct.Ga}{s:Ct.St}{ys:List Ct.Px}{ps:List (Nat×Nat)}(h:SH B w (nR (cV ab) m ys::(cV ab).a s::L))(hm:m=n+1)(hL:Ct.Ub i g s ys)(hi:i<=1000)(hps:ys.map AW=ps)(hk:k<ys.length)(hd:ys[k].e.done=false):
  Calls prog 40 #[.pointer (some ⟨(ps.getD k (0,0)).1,0,none⟩)] w λe w'=>e=.returned (.tuple #[])/\SH B w' (nR (cV ab) n (ys.set k (ys[k].next s))::(cV ab).a ((ys[k].u).step s).1::L):=by
 subst hm
 obtain⟨z1,z2,u',hE⟩:=hL.ex _ (cE hk)
 have h2:=VG hk h
 rw[FK hps hk]
 have hu:ys[k].u.ended=none:=by
  have:=hE.same.1;rw[hd]at this
  cases hq:ys[k].u.ended with
  |none=>rfl
  |some r=>rw[hq]at this;cases this
 have hs:=hL.size
 refine(Om (cV ab) (AB ab) n ys[k].tb ys[k].k ys[k].u s (h2.fr (.c r0 (.c r1 .n))) ⟨hL.fit,by unfold Ct.cN;omega⟩ hu (by omega)).mono ?_
 rintro e w' ⟨rfl,h⟩
 have h3:=YA (Nat.le_succ n) (h.fr (.c r2 .n))
 exact⟨rfl,(VO (z:=ys[k].next s) hk (h3.fr (.c r1 (.c r0 .n))))⟩
theorem XT{i k mb:Nat}{g:Ct.Ga}{s:Ct.St}{ys:List Ct.Px}{ps:List (Nat×Nat)}(h:SH B w (eV mb (ys.map Af)::cR mb s::L))(hL:Ct.Ub i g s ys)(hi:i<=1000)(hps:ys.map AW=ps)(hk:k<ys.length)(hd:ys[k].e.done=false):
  Calls prog 24 #[.pointer (some ⟨(ps.getD k (0,0)).2,0,none⟩)] w λe w'=>∃g',Ct.Ub (i+1) g' (((ys[k].u).step s).1) (ys.set k (ys[k].next s))/\e=.returned (.tuple #[])/\SH B w' (eV mb ((ys.set k (ys[k].next s)).map Af)::cR mb ((ys[k].u).step s).1::L):=by
 have h2:=SH.ET (i:=k) (by simpa using hk) h
 rw[Yf hk]at h2
 rw[FK hps hk]
 obtain⟨a1,a2,a3,a4,a5,a6⟩:=hL.ready hi (cE hk)
 refine(Pq ys[k].xb mb ⟨ys[k].e,s⟩ Ct.FU h2 hd a1 a2 (by decide) a3 a4 a5 a6).mono ?_
 rintro e w' ⟨rfl,h,hok⟩
 obtain⟨q1,g',q2⟩:=hL.step hi hk hd hok
 have h5:=SH.Ut (i:=k) (zs:=ys.map Af) (by simpa using hk) h
 rw[q1]
 refine⟨g',q2,rfl,?_⟩
 rw[List.map_set];exact h5
theorem RQ{s:Ct.St}{ys:List Ct.Px}{ps:List (Nat×Nat)}(hps:ys.map AW=ps){k:Nat}(hk:k<ys.length):(ys.set k (ys[k].next s)).map AW=ps:=by
 rw[List.map_set,<- hps]
 have:AW (ys[k].next s)=(ys.map AW)[k]'(by simpa using hk):=by rw[List.getElem_map];rfl
 rw[this,zU]
theorem tF(ab:Nat)(s:Ct.St)(h:SH B w ((cV ab).a s::L))(hr:s.size<=100000000000)(hf:Ct.eK s):
  Calls prog 38 #[↑ab] w λe w'=>∃pn cn pc cc zs,zs.map Prod.fst=aW s/\e=.returned (.agg [.slice pn zs.length cn,.slice pc s.cells.length cc,↑(s.gen:Int)].toArray)/\SH B w' (aU 90 14 (.slice pn zs.length cn) zs.length (zs.flatMap cB)::aU 39 1 (.slice pc s.cells.length cc) s.cells.length (s.cells.map (Value.int .i64))::bE zs::(cV ab).a s::L):=by
 refine(Oi ab s (VB h) hr hf).mono ?_
 rintro e w' ⟨pn,cn,pc,cc,zs,hz,rfl,h⟩
 exact⟨pn,cn,pc,cc,zs,hz,rfl,(LX (h.fr (.c r3 .n))).fr (.c r1 (.c r1 (.c r1 .n)))⟩
end Go.Q9
end
section
namespace Go.Q9
open Go.Proofs.Tryz
open Go.E
theorem UR:prog.underlying 35=some (.slice 55):=by kernel_rfl
end Go.Q9
end
section
namespace Go.Q9
open Go.Proofs.Tryz
open Go.RowKit Go.E
attribute [local irreducible] gB wpS Go.E.X XS C jU kP fin Y U F Ca jT bl rb aU bV ex ce pu sK gK bK zK gM fO dH gP nE rD
theorem lS{s:Ct.St}(hf:Ct.eK s)(hr:s.size<=100000000000):∀n∈aW s,n.aA.length<=1000000/\n.aF.length<=200000000000/\n.aD<18446744073709551616:=by
 have hm:Ct.gY.aA.length<=1000000/\Ct.gY.aF.length<=200000000000/\Ct.gY.aD<18446744073709551616:=by decide
 intro n m
 unfold aW at m
 rcases List.mem_cons.1 m with rfl|m
 ·exact hm
 ·rcases List.mem_cons.1 m with rfl|m
  ·exact hm
  ·have h:=hf n m
   have h1:=zS h (by unfold Ct.St.size at hr;omega)
   exact⟨h1.1,h1.2,h.1.2.2.1⟩
variable{B w:World}{L:List As}
theorem GX(mb tb:Nat)(s:Ct.St)(ys:List Ct.Px)(ps:List (Nat×Nat))(pk:List Int)(ppl:Option Addr)(cpl:Nat)(h:SH B w (eV mb (ys.map Af)::cR mb s::bV 2 (.slice ppl ps.length cpl) ps.length (ps.flatMap Ns)::gQ tb pk::L))(hps:ys.map AW=ps)(h0:0<ps.length)(h1:ps.length<=100):
  Calls prog 39 #[.slice ppl ps.length cpl,↑tb] w λe w'=>∃k:Int,(0<=k->∃j:Nat,∃hj:j<ys.length,k=(j:Int)/\ys[j].e.done=false)/\e=.returned ↑k/\SH B w' (eV mb (ys.map Af)::cR mb s::bV 2 (.slice ppl ps.length cpl) ps.length (ps.flatMap Ns)::gQ tb pk::L):=by
 have hyl:ys.length=ps.length:=by rw[<- hps,yM]
 refine bZ func39 ntmps39 h λw h=>?_
 refine cG (LV _ _ h.to) λlf1 w h=>?_
 refine qc h (λhd2 w h=>?_) λhd2 w h=>?_
 refine Pv (fB _ _ _ h.to (by omega) (by omega)) λj3 hjj3 w h=>?_
 obtain⟨b4,o5,rfl⟩:=h.fq a3 (by omega)
 refine go h λw h=>?_
 refine st (ld One.h rfl ((h.rr a3).x wI (by decide) (by omega) (0,0) 1 _ rfl))<|go h λw h=>?_
 refine bA (Jv (k:=j3) h.to hps (by omega)) λw h=>?_
 refine qc h (λhd6 w h=>?_) λhd6 w h=>?_
 have hd7:=(xE _).mp hd6
 refine go h λw h=>?_
 exact rz ⟨_,(λ_=>⟨j3,by omega,rfl,by rw[<- Am (d:={}) (by omega)];exact hd7⟩),rfl,h.to⟩
 refine lp (α:=Nat) (λρ=>(.c 0 (.slice (some ⟨b4,o5,none⟩) ps.length cpl) (.c 22 ↑(ps.length:Int) (.c 23 (.int .i64 (ρ:Int)) .n)))) (λρ w=>SH B w (eV mb (ys.map Af)::cR mb s::gQ tb pk::bV 2 (.slice (some ⟨b4,o5,none⟩) ps.length cpl) ps.length (ps.flatMap Ns)::L)/\(ρ<=ps.length)) (λρ=>ps.length-ρ) 0 ⟨rfl,rfl,rfl,trivial⟩ ⟨h,dI _⟩ ?_
 rintro k w ⟨h,hk⟩
 refine go h λw h=>?_
 refine qc h (λhd9 w h=>?_) λhd9 w h=>?_
 have hg10:=Qa hd9
 refine go h λw h=>?_
 refine st (ld One.h rfl ((h.rr a3).x wI (by decide) (by omega) (0,0) 1 _ rfl))<|go h λw h=>?_
 refine bA (Jv (k:=k) h.to hps (by omega)) λw h=>?_
 refine qc h (λhd11 w h=>?_) λhd11 w h=>?_
 have hd12:=(xE _).mp hd11
 exact rz ⟨_,(λ_=>⟨k,by omega,rfl,by rw[<- Am (d:={}) (by omega)];exact hd12⟩),rfl,h.to⟩
 exact⟨(k+1),⟨rfl,rfl,rfl,trivial⟩,⟨h,by(try dsimp only);omega⟩,by(try dsimp only);omega⟩
 exact rz ⟨-1,(λq=>absurd q (by decide)),rfl,h.to⟩
 refine lp (α:=Nat) (λρ=>(.c 0 (.slice ppl ps.length cpl) (.c 22 ↑(ps.length:Int) (.c 23 (.int .i64 (ρ:Int)) .n)))) (λρ w=>SH B w (gQ tb pk::eV mb (ys.map Af)::cR mb s::bV 2 (.slice ppl ps.length cpl) ps.length (ps.flatMap Ns)::L)/\(ρ<=ps.length)) (λρ=>ps.length-ρ) 0 ⟨rfl,rfl,rfl,trivial⟩ ⟨h,dI _⟩ ?_
 rintro k w ⟨h,hk⟩
 refine go h λw h=>?_
 refine qc h (λhd15 w h=>?_) λhd15 w h=>?_
 have hg16:=Qa hd15
 refine go h λw h=>?_
 obtain⟨b17,o18,rfl⟩:=h.fq a3 (by omega)
 refine go h λw h=>?_
 refine st (ld One.h rfl ((h.rr a3).x wI (by decide) (by omega) (0,0) 1 _ rfl))<|go h λw h=>?_
 refine bA (Jv (k:=k) h.to hps (by omega)) λw h=>?_
 refine qc h (λhd19 w h=>?_) λhd19 w h=>?_
 have hd20:=(xE _).mp hd19
 exact rz ⟨_,(λ_=>⟨k,by omega,rfl,by rw[<- Am (d:={}) (by omega)];exact hd20⟩),rfl,h.to⟩
 exact⟨(k+1),⟨rfl,rfl,rfl,trivial⟩,⟨h.to,by(try dsimp only);omega⟩,by(try dsimp only);omega⟩
 exact rz ⟨-1,(λq=>absurd q (by decide)),rfl,h.to⟩
theorem LK(ab mb:Nat)(g:Ct.Ga)(s:Ct.St)(ys:List Ct.Px)(ps:List (Nat×Nat))(pk:List Int)(ppl pp:Option Addr)(cpl cp:Nat)(h:SH B w (nR (cV ab) 400 ys::eV mb (ys.map Af)::cR mb s::(cV ab).a s::bV 2 (.slice ppl ps.length cpl) ps.length (ps.flatMap Ns)::bV 1 (.slice pp pk.length cp) pk.length (pk.map (Value.int .i64))::L))(hL:Ct.Ub 0 g s ys)(hps:ys.map AW=ps)(h0:0<ps.length)(h1:ps.length<=100):
  Calls prog 13 #[↑ab,↑mb,.slice pp pk.length cp,.slice ppl ps.length cpl] w λe w'=>∃s',Ct.eK s'/\s'.size<=38100000000/\e=.returned ↑true/\SH B w' (cR mb s'::(cV ab).a s'::L):=by
 refine bZ func13 ntmps13 h λw h=>?_
 refine cG (NS _ _ _ h.to) λtb w h=>?_
 refine lp (α:=Nat×Ct.Ga×Ct.St×List Ct.Px) (λρ=>(.c 0 ↑ab (.c 1 ↑mb (.c 3 (.slice ppl ps.length cpl) (.c 9 ↑tb (.c 10 (.int .i64 (ρ.1:Int)) .n)))))) (λρ w=>SH B w (nR (cV ab) (400-ρ.1) ρ.2.2.2::eV mb (ρ.2.2.2.map Af)::cR mb ρ.2.2.1::(cV ab).a ρ.2.2.1::bV 2 (.slice ppl ps.length cpl) ps.length (ps.flatMap Ns)::gQ tb pk::L)/\(Ct.Ub ρ.1 ρ.2.1 ρ.2.2.1 ρ.2.2.2)/\(ρ.2.2.2.map AW=ps)/\(ρ.1<=400)) (λρ=>400-ρ.1) (0,g,s,ys) ⟨rfl,rfl,rfl,rfl,rfl,trivial⟩ ⟨h.to,hL,hps,(dI _)⟩ ?_
 rintro⟨i,g,s,ys⟩ w ⟨h,hL,hps,hi⟩
 dsimp only at *
 refine go h λw h=>?_
 refine qc h (λhd1 w h=>?_) λhd1 w h=>?_
 have hg2:=Qa hd1
 refine go h λw h=>?_
 have hyl:ys.length=ps.length:=by rw[<- hps,yM]
 refine lp (α:=Nat) (λρ=>(.c 0 ↑ab (.c 1 ↑mb (.c 3 (.slice ppl ps.length cpl) (.c 9 ↑tb (.c 10 ↑(i:Int) (.c 20 (.slice ppl ps.length cpl) (.c 21 ↑(ps.length:Int) (.c 22 (.int .i64 (ρ:Int)) .n))))))))) (λρ w=>SH B w (nR (cV ab) (400-i) ys::eV mb (ys.map Af)::cR mb s::(cV ab).a s::bV 2 (.slice ppl ps.length cpl) ps.length (ps.flatMap Ns)::gQ tb pk::L)/\(ρ<=ps.length)) (λρ=>ps.length-ρ) 0 ⟨rfl,rfl,rfl,rfl,rfl,rfl,rfl,rfl,trivial⟩ ⟨h,dI _⟩ ?_
 rintro k w ⟨h,hk⟩
 refine go h λw h=>?_
 rcases CG (decide (((k:Int):Int)<(ps.length:Int)))with hd3|hd3
 have hg4:=Qa hd3
 refine go h λw h=>?_
 obtain⟨b5,o6,rfl⟩:=h.fq a4 (by omega)
 refine go h λw h=>?_
 refine st (gJ rfl ((h.rr a4).x wI (by decide) (by omega) (0,0)) Row.h)<|go h λw h=>?_
 refine jA h λb7 w h=>?_
 refine bA (PE (k:=k) h.to hL hps (by omega)) λw h=>?_
 exact⟨(k+1),⟨rfl,rfl,rfl,rfl,rfl,rfl,rfl,rfl,trivial⟩,⟨h.to,by(try dsimp only);omega⟩,by(try dsimp only);omega⟩
 have hg8:=zG hd3
 refine cf rfl hd3<|xt<|tx<|tx<|be<|nx<|?_
 refine sm (λe w=>Sub 71 e (.c 0 ↑ab (.c 1 ↑mb (.c 3 (.slice ppl ps.length cpl) (.c 9 ↑tb (.c 10 ↑(i:Int) .n)))))/\SH B w (nR (cV ab) (400-i) ys::eV mb (ys.map Af)::cR mb s::(cV ab).a s::bV 2 (.slice ppl ps.length cpl) ps.length (ps.flatMap Ns)::gQ tb pk::L)) ?_ ?_
 refine go h λw h=>?_
 have hrz:s.size<=100000000000:=by have:=hL.size;omega
 have hfz:=lS hL.fit hrz
 have h:=h.fr (.c r2 .n)
 obtain⟨⟨pn,cn,pc,cc,zs⟩,hz0,h⟩:=h.mo
 have h:SH B w (bl mb ([.slice pn zs.length cn,.slice pc s.cells.length cc,↑(s.gen:Int),↑(s.acc:Int)]) 76::aU 90 14 (.slice pn zs.length cn) zs.length (zs.flatMap cB)::aU 39 1 (.slice pc s.cells.length cc) s.cells.length (s.cells.map (Value.int .i64))::bE zs::nR (cV ab) (400-i) ys::eV mb (ys.map Af)::(cV ab).a s::bV 2 (.slice ppl ps.length cpl) ps.length (ps.flatMap Ns)::gQ tb pk::L):=h
 have hzs:zs.map Prod.fst=aW s:=hz0
 clear hz0
 rcases CG (decide (((i:Int):Int)<60))with hd9|hd9<;>refine go h λw h=>?_
 have hg10:=Qa hd9
 refine dZ [1,3,5,7,9,11,13,15,17,21,23,25,27,18,28,31,33] (by kernel_rfl) h (.c r0 .n) λw h=>go h λw h=>?_
 refine tk (λW H=>gJ (cs:=[.slice pn zs.length cn,.slice pc s.cells.length cc,↑(s.gen:Int)]) rfl (eP (H.b a0) 0 rfl) Row.h)<|go h λw h=>?_
 refine cs (ca eF rfl) ((tF ab s (h.fr (.c r6 .n)) hrz hL.fit).mono ?_)
 rintro _ w ⟨pnz12,cnz13,pcz14,ccz15,zz11,hzz16,rfl,h⟩
 refine⟨_,rfl,h.hs (.c r4 .n),?_⟩
 refine oX rfl rfl rfl<|?_
 refine go h λw h=>?_
 refine gO (Al _ _ _ _ _ _ _ _ _ _ _ h.to hzz16 hzs hrz hfz) λw h=>?_
 have h:=SH.mi ⟨_,_,_,_,_⟩ hzs (h.fr (.c r4 (.c r0 (.c r0 (.c r0 .n)))))
 exact⟨⟨rfl,rfl,rfl,rfl,rfl,trivial⟩,h.to⟩
 have hg17:=zG hd9
 rcases CG ((((i:Int)).tmod (16):Int)==0)with hd18|hd18<;>refine go h λw h=>?_
 have hg19:=eq_of_beq hd18
 refine dZ [1,3,5,7,9,11,13,15,17,21,23,25,27,18,28,31,33] (by kernel_rfl) h (.c r0 .n) λw h=>go h λw h=>?_
 refine tk (λW H=>br rfl rfl (by omega))<|go h λw h=>?_
 refine tk (λW H=>gJ (cs:=[.slice pn zs.length cn,.slice pc s.cells.length cc,↑(s.gen:Int)]) rfl (eP (H.b a0) 0 rfl) Row.h)<|go h λw h=>?_
 refine cs (ca eF rfl) ((tF ab s (h.fr (.c r6 .n)) hrz hL.fit).mono ?_)
 rintro _ w ⟨pnz21,cnz22,pcz23,ccz24,zz20,hzz25,rfl,h⟩
 refine⟨_,rfl,h.hs (.c r4 .n),?_⟩
 refine oX rfl rfl hd18<|?_
 refine go h λw h=>?_
 refine gO (Al _ _ _ _ _ _ _ _ _ _ _ h.to hzz25 hzs hrz hfz) λw h=>?_
 have h:=SH.mi ⟨_,_,_,_,_⟩ hzs (h.fr (.c r4 (.c r0 (.c r0 (.c r0 .n)))))
 exact⟨⟨rfl,rfl,rfl,rfl,rfl,trivial⟩,h.to⟩
 have hg26:=eC hd18
 refine dZ [1,3,5,7,9,11,13,15,17,21,23,25,27,18,28,31,33] (by kernel_rfl) h .n λw h=>go h λw h=>?_
 refine tk (λW H=>br rfl rfl (by omega))<|go h λw h=>?_
 have h:=SH.mi ⟨_,_,_,_,_⟩ hzs (h.fr (.c r0 (.c r0 (.c r0 (.c r0 .n)))))
 exact⟨⟨rfl,rfl,rfl,rfl,rfl,trivial⟩,h.to⟩
 rintro e w ⟨hE,h⟩
 refine C.sub hE ?_
 clear hE e
 refine go h λw h=>?_
 refine Pv (GX _ _ _ _ _ _ _ _ h.to hps h0 h1) λkk27 hkk28 w h=>?_
 refine qc h (λhd29 w h=>?_) λhd29 w h=>?_
 have hg30:=Qa hd29
 refine go h λw h=>?_
 have hrz:s.size<=100000000000:=by have:=hL.size;omega
 have hfz:=lS hL.fit hrz
 have h:=h.fr (.c r1 .n)
 obtain⟨⟨pn,cn,pc,cc,zs⟩,hz0,h⟩:=h.mo
 have h:SH B w (bl mb ([.slice pn zs.length cn,.slice pc s.cells.length cc,↑(s.gen:Int),↑(s.acc:Int)]) 76::aU 90 14 (.slice pn zs.length cn) zs.length (zs.flatMap cB)::aU 39 1 (.slice pc s.cells.length cc) s.cells.length (s.cells.map (Value.int .i64))::bE zs::eV mb (ys.map Af)::bV 2 (.slice ppl ps.length cpl) ps.length (ps.flatMap Ns)::gQ tb pk::nR (cV ab) (400-i) ys::(cV ab).a s::L):=h
 have hzs:zs.map Prod.fst=aW s:=hz0
 clear hz0
 refine dZ [1,5,7,9,11,2,12,14] (by kernel_rfl) h (.c r0 .n) λw h=>go h λw h=>?_
 refine tk (λW H=>gJ (cs:=[.slice pn zs.length cn,.slice pc s.cells.length cc,↑(s.gen:Int)]) rfl (eP (H.b a0) 0 rfl) Row.h)<|go h λw h=>?_
 refine cs (ca eF rfl) ((tF ab s (h.fr (.c r8 .n)) hrz hL.fit).mono ?_)
 rintro _ w ⟨pnz32,cnz33,pcz34,ccz35,zz31,hzz36,rfl,h⟩
 refine⟨_,rfl,h.hs (.c r4 .n),?_⟩
 refine go h λw h=>?_
 refine gO (Al _ _ _ _ _ _ _ _ _ _ _ h.to hzz36 hzs hrz hfz) λw h=>?_
 have h:=SH.mi ⟨_,_,_,_,_⟩ hzs (h.fr (.c r4 (.c r0 (.c r0 (.c r0 .n)))))
 exact rz ⟨s,hL.fit,(by have:=hL.size;omega),rfl,h.to⟩
 have hg37:=zG hd29
 refine go h λw h=>?_
 obtain⟨jj,hjj,hje,hdd⟩:=hkk28 (by have:=zG hd29;omega)
 subst hje
 have hyl:ys.length=ps.length:=by rw[<- hps,yM]
 refine go h λw h=>?_
 obtain⟨b38,o39,rfl⟩:=h.fq a2 (by omega)
 refine go h λw h=>?_
 refine st (ld One.h rfl ((h.rr a2).x wI (by decide) (by omega) (0,0) 0 _ rfl))<|go h λw h=>?_
 refine bA (XC (n:=400-(i+1)) (k:=jj) h.to (by omega) hL (by omega) hps hjj hdd) λw h=>?_
 refine st (ld One.h rfl ((h.rr a4).x wI (by decide) (by omega) (0,0) 1 _ rfl))<|go h λw h=>?_
 refine Pv (XT (k:=jj) h.to hL (by omega) hps hjj hdd) λg2 hL2 w h=>?_
 exact⟨((i+1),g2,((ys[jj].u).step s).1,(ys.set jj (ys[jj].next s))),⟨rfl,rfl,rfl,rfl,rfl,trivial⟩,⟨h.to,hL2,(RQ hps hjj),by(try dsimp only);omega⟩,by(try dsimp only);omega⟩
 have hg40:=zG hd1
 refine go h λw h=>?_
 have hrz:s.size<=100000000000:=by have:=hL.size;omega
 have hfz:=lS hL.fit hrz
 have h:=h.fr (.c r2 .n)
 obtain⟨⟨pn,cn,pc,cc,zs⟩,hz0,h⟩:=h.mo
 have h:SH B w (bl mb ([.slice pn zs.length cn,.slice pc s.cells.length cc,↑(s.gen:Int),↑(s.acc:Int)]) 76::aU 90 14 (.slice pn zs.length cn) zs.length (zs.flatMap cB)::aU 39 1 (.slice pc s.cells.length cc) s.cells.length (s.cells.map (Value.int .i64))::bE zs::nR (cV ab) (400-i) ys::eV mb (ys.map Af)::(cV ab).a s::bV 2 (.slice ppl ps.length cpl) ps.length (ps.flatMap Ns)::gQ tb pk::L):=h
 have hzs:zs.map Prod.fst=aW s:=hz0
 clear hz0
 refine dZ [1,5,7,9,11,2,12,14] (by kernel_rfl) h (.c r0 .n) λw h=>go h λw h=>?_
 refine tk (λW H=>gJ (cs:=[.slice pn zs.length cn,.slice pc s.cells.length cc,↑(s.gen:Int)]) rfl (eP (H.b a0) 0 rfl) Row.h)<|go h λw h=>?_
 refine cs (ca eF rfl) ((tF ab s (h.fr (.c r6 .n)) hrz hL.fit).mono ?_)
 rintro _ w ⟨pnz42,cnz43,pcz44,ccz45,zz41,hzz46,rfl,h⟩
 refine⟨_,rfl,h.hs (.c r4 .n),?_⟩
 refine go h λw h=>?_
 refine gO (Al _ _ _ _ _ _ _ _ _ _ _ h.to hzz46 hzs hrz hfz) λw h=>?_
 have h:=SH.mi ⟨_,_,_,_,_⟩ hzs (h.fr (.c r4 (.c r0 (.c r0 (.c r0 .n)))))
 exact rz ⟨s,hL.fit,(by have:=hL.size;omega),rfl,h.to⟩
end Go.Q9
end
section
namespace Go.Ct
set_option maxRecDepth 100000
instance (n:Node)(L:Nat):Decidable (n.Fit L):=by unfold Node.Fit Node.fits;infer_instance
end Go.Ct
end
section
namespace Go.Q9
open Go.Proofs.Tryz
open Go.E
theorem O8:fv prog 46 1=some (1,1,false):=by kernel_rfl
theorem Oq:prog.underlying 27=some (.pointer 133):=by kernel_rfl
end Go.Q9
end
section
namespace Go.Q9
open Go.Proofs.Tryz
open Go.RowKit Go.E
attribute [local irreducible] gB wpS Go.E.X XS C jU kP fin Y U F Ca jT bl rb aU bV ex ce pu sK gK bK zK gM fO dH gP nE rD
variable{B w:World}{L:List As}
theorem OV(S:dN)(hM:∀w,Rl S.t S.x S.ab w)(n tb k z Cx:Nat)(p:Nat->Ct.St×Ct.I Ct.Result)(h:SH B w (eN S n tb (p 0).2 k::S.a (p 0).1::L))(hstep:∀i,p (i+1)=(p i).2.step (p i).1)(hrun:∀i,i<z->(p i).2.ended.isSome=false)(hend:(p z).2.ended.isSome=true)(hzm:z<=Cx)(hzn:z<=n)(hrm:∀i,i<z->Ct.Rm 101 (p i).1)(hk:k+z<=1000000000000)(hm:Cx<=1000000000000):
  Calls prog 33 #[↑tb,↑(Cx:Int)] w λe w'=>e=.returned ↑(z:Int)/\SH B w' (eN S (n-z) tb (p z).2 (k+z)::S.a (p z).1::L):=by
 refine bZ func33 ntmps33 h λw h=>?_
 refine lp (α:=Nat) (λρ=>(.c 0 ↑tb (.c 1 ↑(Cx:Int) (.c 5 (.int .i64 (ρ:Int)) .n)))) (λρ w=>SH B w (eN S (n-ρ) tb (p ρ).2 (k+ρ)::S.a (p ρ).1::L)/\(ρ<=z)) (λρ=>z-ρ) 0 ⟨rfl,rfl,rfl,trivial⟩ ⟨h,dI _⟩ ?_
 rintro i w ⟨h,hi⟩
 have h:=h.fr (.c r0 .n)
 obtain⟨c,h⟩:=SH.to h
 have hc:=uD (h.fr (.c r1 .n))
 refine go h λw h=>?_
 refine qg h (λhd1 w h=>?_) λhd1 w h=>?_
 ·refine bA (Aa S _ c _ _ h.to) λw h=>?_
  refine qg h (λhd3 w h=>?_) λhd3 w h=>?_
  ·have hd4:=(xE _).mp hd3
   have h:=SH.ti (h.fr (.c r0 (.c r0 .n)))
   have hiz:i<z:=by
    rcases Fh i z with hz|hz
    ·exact hz
    ·obtain rfl:i=z:=by omega
     have h1:=hc.1.symm.trans hd4
     rw[hend]at h1;cases h1
   rw[show n-i=n-(i+1)+1 by omega]at h
   refine bA (Om S hM _ _ _ (p i).2 _ h.to (hrm i hiz) (by have:=hrun i hiz;simpa using this) (by omega)) λw h=>?_
   rw[<- hstep i]at h
   exact⟨((i+1)),⟨rfl,rfl,rfl,trivial⟩,⟨h,hiz⟩,by(try dsimp only);omega⟩
  ·have hd6:=(cW _).mp hd3
   have h:=SH.ti (h.fr (.c r0 (.c r0 .n)))
   refine rz ?_
   have hiz:i=z:=by
    rcases Fh i z with hz|hz
    ·have h1:=hc.1.symm.trans hd6
     rw[hrun i hz]at h1;cases h1
    ·omega
   subst hiz
   exact⟨rfl,h⟩
 ·have hg8:=zG hd1
  refine go h λw h=>?_
  have h:=SH.ti (h.fr (.c r0 (.c r0 .n)))
  refine go h λw h=>?_
  refine rz ?_
  have hiz:i=z:=by
   rcases Fh i z with hz|hz
   ·omega
   ·omega
  subst hiz
  exact⟨rfl,h⟩
end Go.Q9
end
section
namespace Go.Q9
open Go.Proofs.Tryz
open Go.RowKit Go.E
end Go.Q9
end
section
namespace Go.Q9
open Go.Proofs.Tryz
open Go.E
theorem UU:mR prog 55=some (.agg [.pointer none,.pointer none].toArray,2,16):=by kernel_rfl
end Go.Q9
end
section
namespace Go.Q9
open Go.Proofs.Tryz
open Go.RowKit Go.E
attribute [local irreducible] gB wpS Go.E.X XS C jU kP fin Y U F Ca jT bl rb aU bV ex ce pu sK gK bK zK gM fO dH gP nE rD
end Go.Q9
end
section
namespace Go.Q9
open Go.Proofs.Tryz
open Go.E
end Go.Q9
end
section
namespace Go.Q9
open Go.Proofs.Tryz
open Go.RowKit Go.E Go.Ct
attribute [local irreducible] gB wpS Go.E.X XS C jU kP fin Y U F Ca jT bl rb aU bV ex ce pu sK gK bK zK gM fO dH gP nE
variable{B w:World}{L:List As}
theorem tO(n:Ct.Node)(q:Lq)(h:SH B w (aM n q::L))(nf:NF n):
  Calls prog 144 #[.agg (aL n q).toArray] w λe w'=>e=.returned ↑n.lO/\SH B w' (aM n q::L):=by
 have nf_br:=nf.br
 have nf_pr:=nf.pr
 have nf_bm:=nf.bm
 have nf_hs:=nf.hs
 have nf_ks:=nf.ks
 refine bZ func144 ntmps144 h λw h=>?_
 refine jX h λb1 w h=>?_
 refine qg h (λhd2 w h=>?_) λhd2 w h=>?_
 have hg3:=eq_of_beq hd2
 refine go h λw h=>?_
 refine bA (xX _ _ _ _ _ h.to (nf.v3 (by omega)) (by omega) (by omega) (by omega)) λw h=>?_
 exact rz ⟨by rw[Pb hd2 (nf.v3 (eq_of_beq hd2))],h.to⟩
 have hg4:=eC hd2
 refine go h λw h=>?_
 exact rz ⟨by rw[NC hd2],h.drop⟩
theorem GY(n:Ct.Node)(q:Lq)(h:SH B w (aM n q::L))(nf:NF n):
  Calls prog 275 #[.agg (aL n q).toArray] w λe w'=>e=.returned ↑n.Kx/\SH B w' (aM n q::L):=by
 have nf_br:=nf.br
 have nf_pr:=nf.pr
 have nf_bm:=nf.bm
 have nf_hs:=nf.hs
 have nf_ks:=nf.ks
 refine bZ func275 ntmps275 h λw h=>?_
 refine jX h λb1 w h=>?_
 refine qg h (λhd2 w h=>?_) λhd2 w h=>?_
 have hg3:=eq_of_beq hd2
 refine go h λw h=>?_
 refine bA (xX _ _ _ _ _ h.to (nf.v6 (by omega)) (by omega) (by omega) (by omega)) λw h=>?_
 exact rz ⟨by rw[vZ hd2 (nf.v6 (eq_of_beq hd2))],h.to⟩
 have hg4:=eC hd2
 refine go h λw h=>?_
 exact rz ⟨by rw[LW hd2],h.drop⟩
theorem Et(n:Ct.Node)(q:Lq)(i:Int)(h:SH B w (aM n q::L))(nf:NF n)(hc:n.lO=true)(h0:0<=i)(h1:i<64):
  Calls prog 269 #[.agg (aL n q).toArray,↑i] w λe w'=>e=.returned ↑true/\SH B w' (aM n q::L):=by
 have nf_br:=nf.br
 have nf_pr:=nf.pr
 have nf_bm:=nf.bm
 have nf_hs:=nf.hs
 have nf_ks:=nf.ks
 refine bZ func269 ntmps269 h λw h=>?_
 refine jX h λb1 w h=>?_
 refine bA (tO _ _ h.to nf) λw h=>?_
 refine rz ?_
 exact⟨by rw[show (decide ((i:Int)<64))=true from zT (by omega)],h.to⟩
theorem pX(n:Ct.Node)(pb:Option Addr)(cb:Nat)(pp:Option Addr)(cp:Nat)(i:Int)(h:SH B w (aM n (⟨pb,cb,pp,cp⟩)::L))(nf:NF n):
  Calls prog 99 #[.agg (aL n (⟨pb,cb,pp,cp⟩)).toArray,↑i] w λe w'=>e=.returned (.tuple #[.int .i64 (Ct.aB n i).1,.bool (Ct.aB n i).2])/\SH B w' (aM n ⟨pb,cb,pp,cp⟩::L):=by
 have nf_bm:=nf.bm
 have nf_hs:=nf.hs
 have nf_ks:=nf.ks
 refine bZ func99 ntmps99 h λw h=>?_
 refine jX h λb1 w h=>?_
 refine bA (tO _ (⟨pb,cb,pp,cp⟩) h.to nf) λw h=>?_
 refine qg h (λhd2 w h=>?_) λhd2 w h=>?_
 have hd3:=(xE _).mp hd2
 refine go h λw h=>?_
 exact rr (gE rfl rfl rfl)<|⟨by rw[Tr hd3],h.to⟩
 have hd4:=(cW _).mp hd2
 refine go h λw h=>?_
 refine cl (ca eF rfl) ((Ax n.aD i _ (by omega)).mono ?_)
 rintro _ _ ⟨rfl,rfl⟩
 refine⟨_,rfl,?_⟩
 refine gT rfl rfl hd2<|st (nt rfl)<|st (pF rfl hd2 rfl)<|xe<|nx<|?_
 refine go h λw h=>?_
 refine qc h (λhd5 w h=>?_) λhd5 w h=>?_
 have hd6:=(xE _).mp hd5
 refine go h λw h=>?_
 exact rr (gE rfl rfl rfl)<|⟨by rw[Dd hd6],h.to⟩
 have hd7:=(cW _).mp hd5
 refine go h λw h=>?_
 have h:=SH.se (l:=[aY n (⟨pb,cb,pp,cp⟩),cH n (⟨pb,cb,pp,cp⟩)]) h
 have hlt:=US hd4 hd7
 obtain⟨b8,o9,rfl⟩:=h.fq a0 (by omega)
 refine dZ [1,3,5,7,9,10,13,15,16,18] (by kernel_rfl) h (.c r2 (.c r0 .n)) λw h=>go h λw h=>?_
 refine cs (ca eF rfl) ((tE n.aD i _ (by omega)).mono ?_)
 rintro _ _ ⟨rfl,rfl⟩
 refine⟨_,rfl,h.hs (.c r2 (.c r0 .n)),?_⟩
 refine tk (λW H=>ix (j:=Bm.aO n.aD i) dJ nW rfl rfl (by omega))<|tk (λW H=>ld fZ rfl ((H.rr a1).i (by omega)))<|ef (sg rfl) (h.hs (.c r2 (.c r0 .n)))<|ef (sg rfl) (h.hs (.c r2 (.c r0 .n)))<|xz<|nx<|rt<|?_
 exact rr (gE rfl rfl rfl)<|⟨by rw[MF hd4 hd7],SH.is (l:=[aY n ⟨some ⟨b8,o9,none⟩,cb,pp,cp⟩,cH n ⟨some ⟨b8,o9,none⟩,cb,pp,cp⟩]) h.to⟩
theorem IH(n:Ct.Node)(pb:Option Addr)(cb:Nat)(pp:Option Addr)(cp:Nat)(h:SH B w (aM n (⟨pb,cb,pp,cp⟩)::L))(nf:NF n):
  Calls prog 271 #[.agg (aL n (⟨pb,cb,pp,cp⟩)).toArray] w λe w'=>e=.returned (.tuple #[.int .i64 (Ct.fF n).1,.bool (Ct.fF n).2])/\SH B w' (aM n ⟨pb,cb,pp,cp⟩::L):=by
 refine bZ func271 ntmps271 h λw h=>?_
 refine jX h λb1 w h=>?_
 refine bA (tO _ (⟨pb,cb,pp,cp⟩) h.to nf) λw h=>?_
 refine qg h (λhd2 w h=>?_) λhd2 w h=>?_
 have hd3:=(xE _).mp hd2
 exact rr (gE rfl rfl rfl)<|⟨by rw[NM hd3],h.to⟩
 have hd4:=(cW _).mp hd2
 refine qc h (λhd5 w h=>?_) λhd5 w h=>?_
 have hg6:=bne_iff_ne.1 hd5
 refine go h λw h=>?_
 exact rr (gE rfl rfl rfl)<|⟨by rw[OQ (by omega)],h.to⟩
 have hg7:=eS hd5
 refine go h λw h=>?_
 have h:=SH.se (l:=[aY n (⟨pb,cb,pp,cp⟩),cH n (⟨pb,cb,pp,cp⟩)]) h
 refine go h λw h=>?_
 obtain⟨b8,o9,rfl⟩:=h.fq a0 (by omega)
 refine go h λw h=>?_
 exact rr (gE rfl rfl rfl)<|⟨by rw[NY hd4 (by omega)],SH.is (l:=[aY n ⟨some ⟨b8,o9,none⟩,cb,pp,cp⟩,cH n ⟨some ⟨b8,o9,none⟩,cb,pp,cp⟩]) h.to⟩
theorem qD(x:Nat)(key:ByteArray)(v:Nat)(h:SH B w (L)):
  Calls prog 268 #[.int .u64 (x:Int),↑key,.int .u64 (v:Int)] w λe w'=>e=.returned (.agg (aL ({kind:=4,hash:=x,key:=key,value:=v}:Ct.Node) {}).toArray)/\SH B w' L:=by
 refine bZ func268 ntmps268 h λw h=>?_
 refine jA h λb1 w h=>?_
 exact rr (bP rfl rfl (h.b a0) Row.h)<|⟨rfl,h.drop⟩
theorem HM(x:Nat)(key:ByteArray)(v:Nat)(h:SH B w (L)):
  Calls prog 272 #[.int .u64 (x:Int),↑key,.int .u64 (v:Int)] w λe w'=>e=.returned (.agg (aL ({kind:=5,hash:=x,key:=key,value:=v}:Ct.Node) {}).toArray)/\SH B w' L:=by
 refine bZ func272 ntmps272 h λw h=>?_
 refine jA h λb1 w h=>?_
 exact rr (bP rfl rfl (h.b a0) Row.h)<|⟨rfl,h.drop⟩
theorem Lk(n:Ct.Node)(q:Lq)(h:SH B w (aM n q::L)):
  Calls prog 240 #[.agg (aL n q).toArray] w λe w'=>∃q',e=.returned (.tuple #[.agg (aL (Ct.aT n).1 q').toArray,.bool (Ct.aT n).2])/\SH B w' (aM (Ct.aT n).1 q'::aM n q::L):=by
 refine bZ func240 ntmps240 h λw h=>?_
 refine jX h λb1 w h=>?_
 refine jA h λb2 w h=>?_
 refine qc h (λhd3 w h=>?_) λhd3 w h=>?_
 have hg4:=bne_iff_ne.1 hd3
 refine go h λw h=>?_
 refine rr (cL rfl rfl (h.b a0) Row.h rfl) ?_
 rw[VD (by omega)];exact⟨{},rfl,SH.eE _ rfl rfl h.drop.drop⟩
 have hg5:=eS hd3
 refine go h λw h=>?_
 refine bA (qD _ _ _ h.to) λw h=>?_
 refine rr (cL rfl rfl (h.b a0) Row.h rfl) ?_
 rw[NW (by omega)];exact⟨{},rfl,SH.eE _ rfl rfl h.drop.drop⟩
theorem Rx(n:Ct.Node)(q:Lq)(h:SH B w (aM n q::L))(hb:n.aA.length<=1000000)(hp:n.aF.length<=200000000000):
  Calls prog 63 #[.agg (aL n q).toArray] w λe w'=>∃q',e=.returned (.agg (aL n q').toArray)/\SH B w' (aM n q'::aM n q::L):=by
 exact wP n q (h.Gs .z) hb hp
theorem Fq(n:Ct.Node)(q:Lq)(level:Int)(s:Ct.Node)(q2:Lq)(h:SH B w (aM n q::aM s q2::L))(nf:NF n)(hpz:n.aF.length<=200000000000):
  Calls prog 242 #[.agg (aL n q).toArray,↑level,.agg (aL s q2).toArray] w λe w'=>∃q',e=.returned (.agg (aL (Ct.bQ n level s) q').toArray)/\SH B w' (aM (Ct.bQ n level s) q'::aM n q::aM s q2::L):=by
 have nf_br:=nf.br
 have nf_pr:=nf.pr
 have nf_bm:=nf.bm
 have nf_hs:=nf.hs
 have nf_ks:=nf.ks
 refine bZ func242 ntmps242 h λw h=>?_
 refine jX h λb1 w h=>?_
 refine jX h λb2 w h=>?_
 refine jA h λb3 w h=>?_
 refine bA (IH _ _ _ _ _ h.to nf) λw h=>?_
 refine qg h (λhd4 w h=>?_) λhd4 w h=>?_
 have hg5:=Qa hd4
 refine go h λw h=>?_
 refine qg h (λhd6 w h=>?_) λhd6 w h=>?_
 refine qc h (λhd7 w h=>?_) λhd7 w h=>?_
 have hg8:=eq_of_beq hd7
 refine go h λw h=>?_
 refine bA (HM _ _ _ h.to) λw h=>?_
 refine rr (bP rfl rfl (h.b a1) Row.h) ?_
 rw[LL hd6 (by omega) (by omega)];exact⟨{},rfl,SH.eE _ rfl rfl (h.fr (.c r1 (.c r1 (.c r1 .n)))).drop.drop.drop⟩
 have hg9:=eC hd7
 refine go h λw h=>?_
 refine cG (Rx _ _ h.to (by omega) (by omega)) λq10 w h=>?_
 refine rr (bP rfl rfl (h.b a2) Row.h) ?_
 rw[MD (by omega)];exact⟨q10,rfl,(h.fr (.c r2 (.c r2 (.c r2 .n)))).drop.drop.drop⟩
 refine cG (Rx _ _ h.to (by omega) (by omega)) λq11 w h=>?_
 refine rr (bP rfl rfl (h.b a2) Row.h) ?_
 rw[NO hd6];exact⟨q11,rfl,(h.fr (.c r2 (.c r2 (.c r2 .n)))).drop.drop.drop⟩
 have hg12:=zG hd4
 refine go h λw h=>?_
 refine cG (Rx _ _ h.to (by omega) (by omega)) λq13 w h=>?_
 refine rr (bP rfl rfl (h.b a2) Row.h) ?_
 rw[OP (by omega)];exact⟨q13,rfl,(h.fr (.c r2 (.c r2 (.c r2 .n)))).drop.drop.drop⟩
end Go.Q9
end
section
namespace Go.Q9
open Go.Proofs.Tryz
open Go.E
theorem nO:prog.underlying 269=some (.slice 72):=by kernel_rfl
end Go.Q9
end
