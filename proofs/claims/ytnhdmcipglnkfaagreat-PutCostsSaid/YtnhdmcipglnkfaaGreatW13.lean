/- Parts of a proof: Rm, Ryc. -/
import Derived.Test.YtnhdmcipglnkfaaGreatW12
set_option linter.unusedVariables false
set_option linter.unusedSimpArgs false
set_option maxRecDepth 100000
set_option maxHeartbeats 4000000
section
namespace Go.Q9
open Go.Proofs.Tryz
open Go.RowKit Go.E
attribute [local irreducible] gA wpS Go.E.X XS C kV lL fin Y U F Ca kU bl rb aV bS ex ce pu sK gK bK zK
theorem iI{zs:List (Ct.Node×Lq)}{s:Ct.St}(h:zs.map Prod.fst=aZ s):zs.length=2+s.aG.length:=by
 have:=congrArg List.length h
 rw[vX]at this
 rw[this];unfold aZ;simp;omega
theorem Qt{s:Ct.St}{c:Int}{j:Nat}(h:c-1=(j:Int))(hj:j<s.cells.length):(s.load c).2=s.cells.getD j 0:=by
 have e:c.toNat-1=j:=by omega
 unfold Ct.St.load Ct.St.bD
 dsimp only
 rw[if_pos (by simp;omega),e]
theorem Gf{s:Ct.St}{c:Int}(h:c<1\/(s.cells.length:Int)<c):(s.load c).2=0:=by
 unfold Ct.St.load Ct.St.bD
 dsimp only
 rw[if_neg (by simp;omega)]
theorem ZS{s:Ct.St}{c o:Int}(h:c<1\/(s.cells.length:Int)<c):s.pV c o=false:=by
 unfold Ct.St.pV Ct.St.bD
 rw[show (decide (1<=c)&&decide (c<=(s.cells.length:Int)))=false by simp;omega];rfl
theorem HD{s:Ct.St}{c o:Int}{j:Nat}(h:c-1=(j:Int))(hj:j<s.cells.length):s.pV c o=(s.cells.getD j 0==o):=by
 have e:c.toNat-1=j:=by omega
 unfold Ct.St.pV Ct.St.bD
 rw[show (decide (1<=c)&&decide (c<=(s.cells.length:Int)))=true by simp;omega,e];rfl
theorem PR{s:Ct.St}{c o n:Int}(h:c<1\/(s.cells.length:Int)<c):s.cH c o n=({s with acc:=s.acc+1},false):=by
 unfold Ct.St.cH;rw[ZS h];rfl
theorem F6{s:Ct.St}{c o n:Int}{j:Nat}(h:c-1=(j:Int))(hj:j<s.cells.length)(hv:s.cells.getD j 0≠o):s.cH c o n=({s with acc:=s.acc+1},false):=by
 unfold Ct.St.cH;rw[HD h hj,beq_eq_false_iff_ne.2 hv];rfl
theorem RA{s:Ct.St}{c o n:Int}{j:Nat}(h:c-1=(j:Int))(hj:j<s.cells.length)(hv:s.cells.getD j 0=o):s.cH c o n=({s with acc:=s.acc+1,cells:=s.cells.set j n},true):=by
 have e:c.toNat-1=j:=by omega
 unfold Ct.St.cH;rw[HD h hj,beq_iff_eq.2 hv,e];rfl
theorem SO(s:Ct.St)(n:Ct.Node)(i:Int)(h:n.kind=2):s.alloc n i=({(s.aT i).1 with aG:=(s.aT i).1.aG++[{n.bare with main:=(s.aT i).2,prev:=0,status:=0}]},(s.aG.length:Int)+3):=by
 simp[Ct.St.alloc,Ct.St.aT,h,Ct.Node.bare]
theorem No(s:Ct.St)(n:Ct.Node)(i:Int)(h:n.kind=3\/n.kind=5\/n.kind=6):s.alloc n i=({(s.aT i).1 with aG:=(s.aT i).1.aG++[{n.bare with main:=0,prev:=(s.aT i).2,status:=0}]},(s.aG.length:Int)+3):=by
 rcases h with h|h|h<;>simp[Ct.St.alloc,Ct.St.aT,h,Ct.Node.bare,Ct.Node.bG]
theorem RH(s:Ct.St)(n:Ct.Node)(i:Int)(h:n.kind=8):s.alloc n i=({(s.aT i).1 with aG:=(s.aT i).1.aG++[{n.bare with main:=0,prev:=0,status:=(s.aT i).2}]},(s.aG.length:Int)+3):=by
 simp[Ct.St.alloc,Ct.St.aT,h,Ct.Node.bare,Ct.Node.bG]
theorem TN(s:Ct.St)(n:Ct.Node)(i:Int)(h:n.kind≠2/\n.kind≠3/\n.kind≠5/\n.kind≠6/\n.kind≠8):s.alloc n i=({s with aG:=s.aG++[{n.bare with main:=0,prev:=0,status:=0}]},(s.aG.length:Int)+3):=by
 obtain⟨h1,h2,h3,h4,h5⟩:=h
 simp[Ct.St.alloc,Ct.St.aT,h1,h2,h3,h4,h5,Ct.Node.bare,Ct.Node.bG]
theorem uE(s:Ct.St)(r:Int)(h:r<1\/((2+s.aG.length:Nat):Int)<r):s.node r={}:=by
 unfold Ct.St.node Ct.St.nodes;rw[if_pos h]
theorem SD{zs:List (Ct.Node×Lq)}{s:Ct.St}(h:zs.map Prod.fst=aZ s){r:Int}{j:Nat}(hj:r-1=(j:Int))(hl:j<zs.length):zs.getD j ({},{})∈zs/\(zs.getD j ({},{})).1=s.node r:=by
 have e:zs.getD j ({},{})=zs[j]:=by rw[cK,fV hl];rfl
 have hz:=iI h
 rw[e]
 refine⟨uY _,?_⟩
 have h1:(zs.map Prod.fst)[j]?=some zs[j].1:=by rw[AG,fV hl];rfl
 rw[h]at h1
 unfold Ct.St.node Ct.St.nodes
 rw[if_neg (by omega)]
 unfold aZ at h1
 by_cases h2:r<=2
 ·rw[if_pos h2]
  rcases j with _|_|k
  ·simpa using h1.symm
  ·simpa using h1.symm
  ·omega
 ·rw[if_neg h2]
  rcases j with _|_|k
  ·omega
  ·omega
  ·have e2:r.toNat-3=k:=by omega
   rw[e2,cK]
   simp only[Mb]at h1
   rw[h1];rfl
variable{B w:World}{L:List As}
theorem Sn(mb:Nat)(s:Ct.St)(h:SH B w (dX mb s::L))(hr:s.size<=100000000000):
  Calls prog 65 #[↑mb] w λe w'=>e=.returned ↑s.bL.2/\SH B w' (dX mb s.bL.1::L):=by
 obtain⟨⟨pn,cn,pc,cc,zs⟩,pN,h⟩:=h.mo
 have h:SH B w (bl mb ([.slice pn zs.length cn,.slice pc s.cells.length cc,↑(s.gen:Int),↑(s.acc:Int)]) 75::aV 53 14 (.slice pn zs.length cn) zs.length (zs.flatMap bY)::aV 44 1 (.slice pc s.cells.length cc) s.cells.length (s.cells.map (Value.int .i64))::bH zs::L):=h
 have fC:zs.map Prod.fst=aZ s:=pN
 clear pN
 have hz:zs.length=2+s.aG.length:=iI fC
 have Js:s.aG.length+s.cells.length+s.gen+s.acc<=100000000000:=hr
 refine cN func65 ntmps65 h λw h=>?_
 exact rz ⟨rfl,(SH.mi ⟨_,_,_,_,_⟩ fC (h))⟩
theorem mU(mb:Nat)(s:Ct.St)(i:Int)(h:SH B w (dX mb s::L))(hr:s.size<=100000000000):
  Calls prog 66 #[↑mb,↑i] w λe w'=>e=.returned (.int .i64 (s.aT i).2)/\SH B w' (dX mb (s.aT i).1::L):=by
 obtain⟨⟨pn,cn,pc,cc,zs⟩,pN,h⟩:=h.mo
 have h:SH B w (bl mb ([.slice pn zs.length cn,.slice pc s.cells.length cc,↑(s.gen:Int),↑(s.acc:Int)]) 75::aV 53 14 (.slice pn zs.length cn) zs.length (zs.flatMap bY)::aV 44 1 (.slice pc s.cells.length cc) s.cells.length (s.cells.map (Value.int .i64))::bH zs::L):=h
 have fC:zs.map Prod.fst=aZ s:=pN
 clear pN
 have Js:s.aG.length+s.cells.length+s.gen+s.acc<=100000000000:=hr
 refine cN func66 ntmps66 h λw h=>?_
 refine sf (bu [↑i] h gB.h Ss.h rfl (by kernel_rfl) rfl (by decide) (by decide)) ?_
 rintro _ w ⟨b1,rfl,h⟩
 refine go h λw h=>?_
 refine sf (ap h gB.h rfl Ss.h rfl (by decide) rfl rfl (λ_=>u3) (h.ro a0) (by simp[Value.oneCell']) rfl (fK _ _) (by unfold maxLen;omega) (by omega)) ?_
 rintro _ w ⟨p2,c3,rfl,h⟩
 refine go h λw h=>?_
 refine rz ?_
 exact⟨by simp[Ct.St.aT],SH.mi ⟨pn,cn,p2,c3,zs⟩ fC (by unfold AA;dsimp only[Ct.St.aT];rw[cV,fR];exact h.drop)⟩
theorem G3(mb:Nat)(s:Ct.St)(c:Int)(h:SH B w (dX mb s::L))(hr:s.size<=100000000000):
  Calls prog 210 #[↑mb,↑c] w λe w'=>e=.returned (.int .i64 (s.load c).2)/\SH B w' (dX mb (s.load c).1::L):=by
 obtain⟨⟨pn,cn,pc,cc,zs⟩,pN,h⟩:=h.mo
 have h:SH B w (bl mb ([.slice pn zs.length cn,.slice pc s.cells.length cc,↑(s.gen:Int),↑(s.acc:Int)]) 75::aV 53 14 (.slice pn zs.length cn) zs.length (zs.flatMap bY)::aV 44 1 (.slice pc s.cells.length cc) s.cells.length (s.cells.map (Value.int .i64))::bH zs::L):=h
 have fC:zs.map Prod.fst=aZ s:=pN
 clear pN
 have Js:s.aG.length+s.cells.length+s.gen+s.acc<=100000000000:=hr
 refine cN func210 ntmps210 h λw h=>?_
 refine qg h (λdF w h=>?_) λdF w h=>?_
 have xZ:=dH dF
 refine go h λw h=>?_
 exact rz ⟨by rw[show (s.load c).2=0 from Gf (by omega)],(SH.mi ⟨_,_,_,_,_⟩ fC (h))⟩
 have Lt:=dR dF
 refine go h λw h=>?_
 refine qc h (λeB w h=>?_) λeB w h=>?_
 have Vu:=dH eB
 refine go h λw h=>?_
 exact rz ⟨by rw[show (s.load c).2=0 from Gf (by omega)],(SH.mi ⟨_,_,_,_,_⟩ fC (h))⟩
 have CX:=dR eB
 refine go h λw h=>?_
 obtain⟨j,hj⟩:∃j:Nat,c-1=(j:Int):=⟨(c-1).toNat,by omega⟩
 refine st (bs (j:Int))<|go h λw h=>?_
 obtain⟨b7,rfl⟩:=h.fp a2 (by omega)
 refine go h λw h=>?_
 exact rz ⟨by rw[show (s.load c).2=s.cells.getD j 0 from Qt hj (by omega)],(SH.mi ⟨_,_,_,_,_⟩ fC (h))⟩
theorem D'(mb:Nat)(s:Ct.St)(c o n:Int)(h:SH B w (dX mb s::L))(hr:s.size<=100000000000):
  Calls prog 211 #[↑mb,↑c,↑o,↑n] w λe w'=>e=.returned (.bool (s.cH c o n).2)/\SH B w' (dX mb (s.cH c o n).1::L):=by
 obtain⟨⟨pn,cn,pc,cc,zs⟩,pN,h⟩:=h.mo
 have h:SH B w (bl mb ([.slice pn zs.length cn,.slice pc s.cells.length cc,↑(s.gen:Int),↑(s.acc:Int)]) 75::aV 53 14 (.slice pn zs.length cn) zs.length (zs.flatMap bY)::aV 44 1 (.slice pc s.cells.length cc) s.cells.length (s.cells.map (Value.int .i64))::bH zs::L):=h
 have fC:zs.map Prod.fst=aZ s:=pN
 clear pN
 have Js:s.aG.length+s.cells.length+s.gen+s.acc<=100000000000:=hr
 refine cN func211 ntmps211 h λw h=>?_
 refine qg h (λdF w h=>?_) λdF w h=>?_
 have xZ:=dH dF
 refine go h λw h=>?_
 refine rz ?_
 rw[PR (by omega)];exact⟨rfl,(SH.mi ⟨_,_,_,_,_⟩ fC (h))⟩
 have Lt:=dR dF
 refine go h λw h=>?_
 refine qg h (λeB w h=>?_) λeB w h=>?_
 have Vu:=dH eB
 refine go h λw h=>?_
 refine rz ?_
 rw[PR (by omega)];exact⟨rfl,(SH.mi ⟨_,_,_,_,_⟩ fC (h))⟩
 have CX:=dR eB
 refine go h λw h=>?_
 obtain⟨j,hj⟩:∃j:Nat,c-1=(j:Int):=⟨(c-1).toNat,by omega⟩
 refine st (bs (j:Int))<|go h λw h=>?_
 obtain⟨b7,rfl⟩:=h.fp a2 (by omega)
 refine go h λw h=>?_
 refine qc h (λfG w h=>?_) λfG w h=>?_
 have CY:=bne_iff_ne.1 fG
 refine go h λw h=>?_
 refine rz ?_
 rw[F6 hj (by omega) (by omega)];exact⟨rfl,(SH.mi ⟨_,_,_,_,_⟩ fC (h))⟩
 have L7:=eT fG
 refine go h λw h=>?_
 refine st (bs (j:Int))<|go h λw h=>?_
 refine sf (soi h Sz.h rfl rfl (by omega) u2) ?_
 rintro _ w h
 refine go h λw h=>?_
 refine rz ?_
 rw[RA hj (by omega) (by omega)];exact⟨rfl,SH.mi ⟨pn,cn,some ⟨b7,0,none⟩,cc,zs⟩ fC (by unfold AA;dsimp only;rw[tS];exact h)⟩
theorem IL(mb:Nat)(s:Ct.St)(r:Int)(h:SH B w (dX mb s::L))(hr:s.size<=100000000000):
  Calls prog 24 #[↑mb,↑r] w λe w'=>∃q,e=.returned (.agg (aK (s.node r) q).toArray)/\SH B w' (aL (s.node r) q::dX mb s::L):=by
 obtain⟨⟨pn,cn,pc,cc,zs⟩,pN,h⟩:=h.mo
 have h:SH B w (bl mb ([.slice pn zs.length cn,.slice pc s.cells.length cc,↑(s.gen:Int),↑(s.acc:Int)]) 75::aV 53 14 (.slice pn zs.length cn) zs.length (zs.flatMap bY)::aV 44 1 (.slice pc s.cells.length cc) s.cells.length (s.cells.map (Value.int .i64))::bH zs::L):=h
 have fC:zs.map Prod.fst=aZ s:=pN
 clear pN
 have hz:zs.length=2+s.aG.length:=iI fC
 have Js:s.aG.length+s.cells.length+s.gen+s.acc<=100000000000:=hr
 refine cN func24 ntmps24 h λw h=>?_
 refine jA h λb1 w h=>?_
 refine qg h (λcO w h=>?_) λcO w h=>?_
 have Lt:=dH cO
 refine go h λw h=>?_
 refine rr (cD rfl rfl (h.b a0) Row.h) ?_
 rw[uE s r (by omega)];exact⟨{},rfl,SH.fI _ rfl rfl (SH.mi ⟨_,_,_,_,_⟩ fC h.drop)⟩
 have Tv:=dR cO
 refine go h λw h=>?_
 refine qc h (λdM w h=>?_) λdM w h=>?_
 have CX:=dH dM
 refine go h λw h=>?_
 refine rr (cD rfl rfl (h.b a0) Row.h) ?_
 rw[uE s r (by omega)];exact⟨{},rfl,SH.fI _ rfl rfl (SH.mi ⟨_,_,_,_,_⟩ fC h.drop)⟩
 have El:=dR dM
 refine go h λw h=>?_
 obtain⟨j,hj⟩:∃j:Nat,r-1=(j:Int):=⟨(r-1).toNat,by omega⟩
 refine st (bs (j:Int))<|go h λw h=>?_
 obtain⟨b8,rfl⟩:=h.fp a2 (by omega)
 refine go h λw h=>?_
 refine st (kB rfl ((h.ro a2).x gH (by decide) (by omega) ({},{})) Row.h)<|go h λw h=>?_
 refine rr (cD rfl rfl (h.b a0) Row.h) ?_
 obtain⟨hm,hn⟩:=SD fC hj (by omega)
 have h:=h.IG a4 hm
 rw[<- hn];exact⟨_,rfl,((SH.mi ⟨_,_,_,_,_⟩ fC ((h.fr (.c r1 .n)).drop.fr (.c r1 (.c r1 (.c r1 (.c r1 .n)))))).fr (.c r1 .n))⟩
theorem Ib(mb:Nat)(s:Ct.St)(n:Ct.Node)(q:Lq)(i:Int)(h:SH B w (aL n q::dX mb s::L))(hr:s.size<=100000000000)(hb:n.aA.length<=1000000)(hp:n.aH.length<=200000000000):
  Calls prog 64 #[↑mb,.agg (aK n q).toArray,↑i] w λe w'=>e=.returned (.int .i64 (s.alloc n i).2)/\SH B w' (dX mb (s.alloc n i).1::L):=by
 have h:=h.se
 refine Kk (args:=[_,_,_]) func64 rfl ntmps64 rfl ?_
 refine sq<|rg<|sf (bx h rfl rfl)<|?_
 rintro _ w ⟨b1,rfl,h⟩
 refine st (sg rfl)<|xe<|nx<|sq<|rg<|st (fa Bh rfl)<|sf (so h rfl rfl rfl tF rfl (.s (.s (.r .d))) u0)<|?_
 rintro _ w h
 refine st (fa uK rfl)<|sf (so h rfl rfl rfl tF rfl (.s (.s (.s (.s (.s (.s (.s (.s (.s (.r .d)))))))))) u0)<|?_
 rintro _ w h
 refine st (fa vN rfl)<|sf (so h rfl rfl rfl tF rfl (.s (.s (.s (.s (.s (.s (.s (.s (.s (.s (.s (.s (.s (.r .d)))))))))))))) u0)<|?_
 rintro _ w h
 refine xe<|nx<|?_
 refine sm (λe w=>∃s1:Ct.St,∃c2:Int,∃c9:Int,∃Uh:Int,Sub 60 e (.c 0 (.pointer (some ⟨mb,0,none⟩)) (.c 4 (.pointer (some ⟨b1,0,none⟩)) .n))/\SH B w (bl b1 ([.int .i64 n.kind,.int .i64 n.gen,.int .i64 c2,.int .u64 (n.aC:Int),.slice q.pb n.aA.length q.cb,.int .u64 (n.hash:Int),.string n.key,.int .u64 (n.value:Int),.slice q.pp n.aH.length q.cp,.int .i64 c9,.int .i64 n.dO,.int .i64 n.aS,.int .i64 n.new,.int .i64 Uh]) 53::bS 1 (.slice q.pb n.aA.length q.cb) n.aA.length (n.aA.map (Value.int .i64))::bS 2 (.slice q.pp n.aH.length q.cp) n.aH.length (n.aH.flatMap aR)::dX mb s1::L)/\(s.alloc n i=({s1 with aG:=s1.aG++[{n.bare with main:=c2,prev:=c9,status:=Uh}]},(s.aG.length:Int)+3))/\(s1.aG=s.aG)/\(s1.size<=s.size+1)) ?_ ?_
 refine sq<|rg<|st (fa uH rfl)<|st (ld jZ rfl (h.c a0 rfl))<|xe<|nx<|bk<|sq<|rg<|st (bi rfl rfl rfl)<|st (sg rfl)<|xe<|nx<|?_
 rcases dQ ((n.kind:Int)==2)with cO|cO
 refine ct rfl cO<|rg<|st (mv rfl)<|st (mv rfl)<|cl (ca eF rfl) ((mU mb s i (h.fr (.c r3 .n)) (by omega)).mono ?_)
 rintro _ w ⟨rfl,h⟩
 refine⟨_,rfl,?_⟩
 refine st (fa Bh rfl)<|sf (so h rfl rfl rfl tF rfl (.s (.s (.r .d))) u1)<|?_
 rintro _ w h
 refine xe<|bn<|nx<|?_
 exact⟨((s.aT i).1),(s.aT i).2,0,0,⟨rfl,rfl,trivial⟩,(h.fr (.c r1 (.c r1 (.c r1 (.c r0 .n))))),SO s n i (eq_of_beq cO),rfl,(by simp only[Ct.St.aT,Ct.St.size,cV,fR];omega)⟩
 refine cf rfl cO<|sq<|sq<|rg<|st (bi rfl rfl rfl)<|st (sg rfl)<|xe<|nx<|?_
 rcases dQ ((n.kind:Int)==3)with dM|dM
 refine ct rfl dM<|sk<|nx<|ct rfl dM<|rg<|st (mv rfl)<|st (mv rfl)<|cl (ca eF rfl) ((mU mb s i (h.fr (.c r3 .n)) (by omega)).mono ?_)
 rintro _ w ⟨rfl,h⟩
 refine⟨_,rfl,?_⟩
 refine st (fa uK rfl)<|sf (so h rfl rfl rfl tF rfl (.s (.s (.s (.s (.s (.s (.s (.s (.s (.r .d)))))))))) u1)<|?_
 rintro _ w h
 refine xe<|bn<|nx<|?_
 exact⟨((s.aT i).1),0,(s.aT i).2,0,⟨rfl,rfl,trivial⟩,(h.fr (.c r1 (.c r1 (.c r1 (.c r0 .n))))),No s n i (by have:=eq_of_beq dM;omega),rfl,(by simp only[Ct.St.aT,Ct.St.size,cV,fR];omega)⟩
 refine cf rfl dM<|sq<|rg<|st (bi rfl rfl rfl)<|st (sg rfl)<|xe<|nx<|?_
 rcases dQ ((n.kind:Int)==5)with fG|fG
 refine ct rfl fG<|sk<|nx<|ct rfl fG<|rg<|st (mv rfl)<|st (mv rfl)<|cl (ca eF rfl) ((mU mb s i (h.fr (.c r3 .n)) (by omega)).mono ?_)
 rintro _ w ⟨rfl,h⟩
 refine⟨_,rfl,?_⟩
 refine st (fa uK rfl)<|sf (so h rfl rfl rfl tF rfl (.s (.s (.s (.s (.s (.s (.s (.s (.s (.r .d)))))))))) u1)<|?_
 rintro _ w h
 refine xe<|bn<|nx<|?_
 exact⟨((s.aT i).1),0,(s.aT i).2,0,⟨rfl,rfl,trivial⟩,(h.fr (.c r1 (.c r1 (.c r1 (.c r0 .n))))),No s n i (by have:=eq_of_beq fG;omega),rfl,(by simp only[Ct.St.aT,Ct.St.size,cV,fR];omega)⟩
 refine cf rfl fG<|rg<|st (bi rfl rfl rfl)<|st (sg rfl)<|xe<|nx<|?_
 rcases dQ ((n.kind:Int)==6)with iT|iT
 refine ct rfl iT<|rg<|st (mv rfl)<|st (mv rfl)<|cl (ca eF rfl) ((mU mb s i (h.fr (.c r3 .n)) (by omega)).mono ?_)
 rintro _ w ⟨rfl,h⟩
 refine⟨_,rfl,?_⟩
 refine st (fa uK rfl)<|sf (so h rfl rfl rfl tF rfl (.s (.s (.s (.s (.s (.s (.s (.s (.s (.r .d)))))))))) u1)<|?_
 rintro _ w h
 refine xe<|bn<|nx<|?_
 exact⟨((s.aT i).1),0,(s.aT i).2,0,⟨rfl,rfl,trivial⟩,(h.fr (.c r1 (.c r1 (.c r1 (.c r0 .n))))),No s n i (by have:=eq_of_beq iT;omega),rfl,(by simp only[Ct.St.aT,Ct.St.size,cV,fR];omega)⟩
 refine cf rfl iT<|sq<|rg<|st (bi rfl rfl rfl)<|st (sg rfl)<|xe<|nx<|?_
 rcases dQ ((n.kind:Int)==8)with gD|gD
 refine ct rfl gD<|rg<|st (mv rfl)<|st (mv rfl)<|cl (ca eF rfl) ((mU mb s i (h.fr (.c r3 .n)) (by omega)).mono ?_)
 rintro _ w ⟨rfl,h⟩
 refine⟨_,rfl,?_⟩
 refine st (fa vN rfl)<|sf (so h rfl rfl rfl tF rfl (.s (.s (.s (.s (.s (.s (.s (.s (.s (.s (.s (.s (.s (.r .d)))))))))))))) u1)<|?_
 rintro _ w h
 refine xe<|bn<|nx<|?_
 exact⟨((s.aT i).1),0,0,(s.aT i).2,⟨rfl,rfl,trivial⟩,(h.fr (.c r1 (.c r1 (.c r1 (.c r0 .n))))),RH s n i (eq_of_beq gD),rfl,(by simp only[Ct.St.aT,Ct.St.size,cV,fR];omega)⟩
 refine cf rfl gD<|sk<|bn<|nx<|?_
 exact⟨s,0,0,0,⟨rfl,rfl,trivial⟩,h,TN s n i (by have h0:=bM cO;have h1:=bM dM;have h2:=bM fG;have h3:=bM iT;have h4:=bM gD;omega),rfl,(by omega)⟩
 rintro e w ⟨s1,c2,c9,Uh,hE,h,ha,hs1,Yx⟩
 refine C.sub hE ?_
 refine sq<|rg<|sf (bu [] h gN sD rfl (by kernel_rfl) rfl (by decide) (by decide))<|?_
 rintro _ w ⟨b17,rfl,h⟩
 refine st (fa nE rfl)<|st (ld kZ rfl (h.c a1 rfl))<|sf (ZC h a2 a0 gN rfl sD rfl (by decide) rfl rfl (λ_=>u0) (nF _) (wS _) (Qs _) (by unfold maxLen;omega) (by omega))<|?_
 rintro _ w ⟨R5,c19,rfl,h⟩
 refine st (fa nE rfl)<|sf (so h rfl rfl rfl xN rfl (.s (.s (.s (.s (.r .d))))) u1)<|?_
 rintro _ w h
 refine xe<|nx<|sq<|?_
 refine rg<|sf (bu [] h fB tO rfl (by kernel_rfl) rfl (by decide) (by decide))<|?_
 rintro _ w ⟨b20,rfl,h⟩
 refine st (fa qX rfl)<|st (ld wN rfl (h.c a2 rfl))<|sf (ZC h a4 a0 fB rfl tO rfl (by decide) rfl rfl (λ_=>u0) (lN eW _) (wS _) (Qs _) (by unfold maxLen;omega) (by omega))<|?_
 rintro _ w ⟨M6,ZI,rfl,h⟩
 refine st (fa qX rfl)<|sf (so h rfl rfl rfl aIu rfl (.s (.s (.s (.s (.s (.s (.s (.s (.r .d))))))))) u2)<|?_
 rintro _ w h
 refine xe<|nx<|sq<|?_
 have Js:s1.aG.length+s1.cells.length+s1.gen+s1.acc<=100000000001:=kR Yx (by omega)
 have h:=h.fr (.c r5 .n)
 obtain⟨⟨pn,cn,pc,cc,zs⟩,pN,h⟩:=h.mo
 have h:SH B w (bl mb ([.slice pn zs.length cn,.slice pc s1.cells.length cc,↑(s1.gen:Int),↑(s1.acc:Int)]) 75::aV 53 14 (.slice pn zs.length cn) zs.length (zs.flatMap bY)::aV 44 1 (.slice pc s1.cells.length cc) s1.cells.length (s1.cells.map (Value.int .i64))::bH zs::aV 120 2 (.slice M6 n.aH.length ZI) n.aH.length (n.aH.flatMap aR)::aV 44 1 (.slice R5 n.aA.length c19) n.aA.length (n.aA.map (Value.int .i64))::bl b1 ([↑n.kind,↑n.gen,↑c2,.int .u64 (n.aC:Int),.slice R5 n.aA.length c19,.int .u64 (n.hash:Int),↑n.key,.int .u64 (n.value:Int),.slice M6 n.aH.length ZI,↑c9,↑n.dO,↑n.aS,↑n.new,↑Uh]) 53::bS 1 (.slice q.pb n.aA.length q.cb) n.aA.length (n.aA.map (Value.int .i64))::bS 2 (.slice q.pp n.aH.length q.cp) n.aH.length (n.aH.flatMap aR)::L):=h
 have fC:zs.map Prod.fst=aZ s1:=pN
 clear pN
 have hz:zs.length=2+s1.aG.length:=iI fC
 refine drZ (F:=[bl mb ([.slice pn zs.length cn,.slice pc s1.cells.length cc,↑(s1.gen:Int),↑(s1.acc:Int)]) 75,bl b1 ([↑n.kind,↑n.gen,↑c2,.int .u64 (n.aC:Int),.slice R5 n.aA.length c19,.int .u64 (n.hash:Int),↑n.key,.int .u64 (n.value:Int),.slice M6 n.aH.length ZI,↑c9,↑n.dO,↑n.aS,↑n.new,↑Uh]) 53]) [1,3,5,7,9,11,13,14,16,18,20,23] 12 (by kernel_rfl) h (λw h=>(hC (h.at_ a0) (hC (h.at_ a6) hN))) λw h=>tk (λW H=>mv rfl)<|tk (λW H=>mv rfl)<|tk (λW H=>nc rfl rfl)<|tk (λW H=>fa Ni rfl)<|tk (λW H=>fa Nj rfl)<|tk (λW H=>ld BO rfl (H.c a0 rfl))<|tk (λW H=>kB rfl (eH (H.b a1)) iK)<|ff (bu [↑n.kind,↑n.gen,↑c2,.int .u64 (n.aC:Int),.slice R5 n.aA.length c19,.int .u64 (n.hash:Int),↑n.key,.int .u64 (n.value:Int),.slice M6 n.aH.length ZI,↑c9,↑n.dO,↑n.aS,↑n.new,↑Uh] h Cs SJ rfl (by kernel_rfl) rfl (by decide) (by decide))<|?_
 rintro _ w ⟨b23,rfl,h⟩
 refine⟨(hC (h.at_ a1) (hC (h.at_ a7) hN)),?_⟩
 refine ff (ap h Cs rfl SJ rfl (by decide) rfl rfl (λ_=>u2) (h.ro a0) (by simp[Value.oneCell']) rfl (jM (enc:=bY) _ ({n.bare with main:=c2,prev:=c9,status:=Uh},⟨R5,c19,M6,ZI⟩)) (by unfold maxLen;omega) (by omega))<|?_
 rintro _ w ⟨p24,c25,rfl,h⟩
 refine⟨(hC (h.at_ a1) (hC (h.at_ a7) hN)),?_⟩
 refine ef (nc rfl rfl) ((hC (h.at_ a1) (hC (h.at_ a7) hN)))<|ef (fa Ni rfl) ((hC (h.at_ a1) (hC (h.at_ a7) hN)))<|tk (λW H=>fa Nj rfl)<|xzZ<|sf (so h rfl rfl rfl aBl rfl (.r .d) u1)<|?_
 rintro _ w h
 refine xe<|nx<|sq<|rg<|st (mv rfl)<|st (nc rfl rfl)<|st (fa Ni rfl)<|st (fa Nj rfl)<|st (ld BO rfl (h.c a1 rfl))<|st (ln Cs rfl rfl)<|st (sg rfl)<|xe<|nx<|rt<|?_
 refine rr (mC results64 rfl)<|?_
 rw[ha]
 have h:=(((h.fr (.c r0 (.c r6 (.c r6 (.c r6 .n))))).drop.drop.drop.drop.fr (.c r5 (.c r4 (.c r3 (.c r0 (.c r0 (.c r0 .n)))))))).fz.fr (.c r1 .n)
 have h:=h.fz.fr (.c r1 .n)
 have h:=SH.VM (n:={n.bare with main:=c2,prev:=c9,status:=Uh}) (q:=⟨R5,c19,M6,ZI⟩) h
 refine⟨?_,SH.mi ⟨p24,c25,pc,cc,zs++[({n.bare with main:=c2,prev:=c9,status:=Uh},⟨R5,c19,M6,ZI⟩)]⟩ ?_ ?_⟩
 rw[hz,hs1];congr 2;omega
 rw[Md,fC];rfl
 unfold AA;dsimp only;rw[cV,fR];exact h.fr (.c r1 (.c r1 (.c r1 (.c r0 .n))))
end Go.Q9
end
section
namespace Go.Q9
open Go.Proofs.Tryz
open Go.E
theorem Gw:fo prog 135 0=some 0:=by kernel_rfl
theorem VG:fo prog 135 10=some 34:=by kernel_rfl
theorem oL:fo prog 135 11=some 35:=by kernel_rfl
theorem vT:fo prog 135 3=some 27:=by kernel_rfl
theorem Hp:fo prog 135 4=some 28:=by kernel_rfl
theorem Hh:fo prog 135 5=some 29:=by kernel_rfl
theorem D3:fo prog 135 6=some 30:=by kernel_rfl
theorem tK:fo prog 135 7=some 31:=by kernel_rfl
theorem zW:fo prog 135 8=some 32:=by kernel_rfl
theorem zG:fo prog 135 9=some 33:=by kernel_rfl
theorem AY:wM prog 133=true:=by kernel_rfl
theorem NG:wM prog 22=true:=by kernel_rfl
theorem Ov:wM prog 27=true:=by kernel_rfl
theorem Ed:wM prog 33=true:=by kernel_rfl
theorem Cx:wM prog 4=true:=by kernel_rfl
theorem BS:prog.underlying 133=some (.slice 33):=by kernel_rfl
theorem Wi:prog.underlying 22=some (.slice 3):=by kernel_rfl
theorem aDs:sB prog 3=some (.int .i64 0,1,8):=by kernel_rfl
theorem aC8:sB prog 33=some (.int .i64 0,1,8):=by kernel_rfl
theorem aDx:(prog.info? 133).map (·.size)=some 1:=by kernel_rfl
theorem aIv:(prog.info? 22).map (·.size)=some 1:=by kernel_rfl
theorem MQ:(prog.info? 4).map (·.size)=some 1:=by kernel_rfl
end Go.Q9
end
