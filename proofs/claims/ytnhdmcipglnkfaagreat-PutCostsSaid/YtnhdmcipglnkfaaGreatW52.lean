/- Parts of a proof: Qu. -/
import Derived.Test.YtnhdmcipglnkfaaGreatW51
set_option linter.unusedVariables false
set_option linter.unusedSimpArgs false
set_option maxRecDepth 100000
set_option maxHeartbeats 4000000
section
namespace Go.Q9
open Go.Proofs.Tryz
open Go.RowKit Go.E
attribute [local irreducible] gA wpS Go.E.X XS C kV lL fin Y U F Ca kU bl rb aV bS ex ce pu sK gK bK zK gG fE cZ gY mA
variable{B w:World}{L:List As}
theorem AJ(b:Nat)(h:SH B w (L))(hb:b<18446744073709551616):
  Calls prog 98 #[.int .u64 (b:Int)] w λe w'=>∃(p:Option Addr) (c:Nat) (xs:List Int),xs.length=Bm.pop 64 b/\e=.returned (.slice p xs.length c)/\SH B w' (aV 3 1 (.slice p xs.length c) xs.length (xs.map (Value.int .i64))::L):=by
 refine cN func98 ntmps98 h λw h=>?_
 have h:=SH.nil 3 1 h
 refine lp (α:=Nat×List Int×Option Addr×Nat) (λρ=>(.c 0 (.int .u64 (b:Int)) (.c 3 (.slice ρ.2.2.1 ρ.2.1.length ρ.2.2.2) (.c 4 (.int .i64 (ρ.1:Int)) .n)))) (λρ w=>SH B w (aV 3 1 (.slice ρ.2.2.1 ρ.2.1.length ρ.2.2.2) ρ.2.1.length (ρ.2.1.map (Value.int .i64))::L)/\(ρ.1<=64)/\(ρ.2.1.length=Bm.pop ρ.1 b)) (λρ=>64-ρ.1) (0,[],none,0) ⟨rfl,rfl,rfl,trivial⟩ ⟨h,(bZ _),(by simp[Bm.pop])⟩ ?_
 rintro⟨k,xs,px,cx⟩ w ⟨h,hk,hx⟩
 dsimp only at *
 refine go h λw h=>?_
 refine qc h (λdF w h=>?_) λdF w h=>?_
 have xZ:=dH dF
 refine go h λw h=>?_
 refine cl (ca eF rfl) ((Rl b (k:Int) _ hb).mono ?_)
 rintro _ _ ⟨rfl,rfl⟩
 refine⟨_,rfl,?_⟩
 refine xe<|nx<|?_
 refine go h λw h=>?_
 refine qc h (λcJ w h=>?_) λcJ w h=>?_
 refine sf (bu [↑(k:Int)] h gB.h Ss.h rfl (by kernel_rfl) rfl (by decide) (by decide)) ?_
 rintro _ w ⟨b4,rfl,h⟩
 refine go h λw h=>?_
 refine sf (ap h gB.h rfl Ss.h rfl (by decide) rfl rfl (λ_=>u1) (h.ro a0) (by simp[Value.oneCell']) (FN xs (k:Int)) (fK _ _) (by have:=Bm.lW k b;unfold maxLen;simp;omega) (by have:=Bm.lW k b;simp;omega)) ?_
 rintro _ w ⟨p5,c6,rfl,h⟩
 refine go h λw h=>?_
 exact⟨(k+1,xs++[(k:Int)],p5,c6),⟨rfl,rfl,rfl,trivial⟩,⟨h.drop,by(try dsimp only);omega,(by have hp:=Bm.cQ k b;have hz:=Bm.nY b k (by omega);rw[cJ]at hz;rw[<- hz]at hp;(try rw[cV,fR]);rw[hx,hp];rfl)⟩,by(try dsimp only);omega⟩
 exact⟨(k+1,xs,px,cx),⟨rfl,rfl,rfl,trivial⟩,⟨h,by(try dsimp only);omega,(by have hp:=Bm.cQ k b;have hz:=Bm.nY b k (by omega);rw[cJ]at hz;rw[<- hz]at hp;(try rw[cV,fR]);rw[hx,hp];rfl)⟩,by(try dsimp only);omega⟩
 have El:=dR dF
 refine go h λw h=>?_
 refine rz ?_
 have nK:k=64:=by omega
 subst nK
 exact⟨px,cx,xs,hx,rfl,h⟩
theorem NZ(s:Ct.St)(zs:List (Ct.Node×Lq))(pn pc:Option Addr)(cn cc:Nat)(d:Nat)(i:Int)(m0 a:Int)(lv:Nat)(wl:List Int)(pw:Option Addr)(cw:Nat)(bs:List Bool)(psn:Option Addr)(csn:Nat)(h:SH B w (aV 53 14 (.slice pn zs.length cn) zs.length (zs.flatMap bY)::aV 44 1 (.slice pc s.cells.length cc) s.cells.length (s.cells.map (Value.int .i64))::bH zs::aV 4 1 (.slice psn bs.length csn) bs.length (bs.flatMap IY)::bS 1 (.slice pw wl.length cw) wl.length (wl.map (Value.int .i64))::L))(fC:zs.map Prod.fst=aZ s)(hr:s.size<=100000000000)(hb:Ct.cX s i=((Ct.cX s i).1,false)):
  Calls prog 60 #[.agg [.slice pn zs.length cn,.slice pc s.cells.length cc,↑(s.gen:Int)].toArray,.agg [↑i,↑m0,↑a,↑(lv:Int),.slice pw wl.length cw].toArray,.slice psn bs.length csn] w λe w'=>∃(ok:Bool) (ls:List BL) (ps:List Ct.bA) (bs':List Bool) (pl:Option Addr) (cl:Nat) (pp:Option Addr) (cp:Nat),PlQ s d i a bs ok ls ps bs'/\e=.returned (.tuple #[.slice pl ls.length cl,.slice pp ps.length cp,↑ok])/\SH B w' (bS 2 (.slice pp ps.length cp) ps.length (ps.flatMap aR)::aV 70 5 (.slice pl ls.length cl) ls.length (ls.flatMap Ih)::aV 4 1 (.slice psn bs.length csn) bs.length (bs'.flatMap IY)::aV 53 14 (.slice pn zs.length cn) zs.length (zs.flatMap bY)::aV 44 1 (.slice pc s.cells.length cc) s.cells.length (s.cells.map (Value.int .i64))::bH zs::L):=by
 have Ud:=iI fC
 have Js:s.aG.length+s.cells.length+s.gen+s.acc<=100000000000:=hr
 refine cN func60 ntmps60 h λw h=>?_
 refine jX h λb1 w h=>?_
 refine jX h λb2 w h=>?_
 refine bQ (Ps _ _ _ _ _ _ _ _ _ hb h.to fC hr) λw h=>?_
 refine rr (Mf rfl rfl rfl rfl) ?_
 have h:=SH.nil 70 5 (SH.WJ (SH.nil 120 2 h))
 exact⟨false,[],[],bs,none,0,none,0,.no (Ct.aE9 (by rw[hb])) (aW _) rfl,rfl,(h.to.fr (.c r1 (.c r0 (.c r3 (.c r0 (.c r0 (.c r0 .n)))))))⟩
def GX(s:Ct.St)(zs:List (Ct.Node×Lq))(pn pc:Option Addr)(cn cc:Nat)(d:Nat):Prop:=∀(i m0 a:Int) (lv:Nat) (wl:List Int) (pw:Option Addr) (cw:Nat) (bs:List Bool) (psn:Option Addr) (csn nb:Nat) (B w:World) (L:List As),SH B w (aV 53 14 (.slice pn zs.length cn) zs.length (zs.flatMap bY)::aV 44 1 (.slice pc s.cells.length cc) s.cells.length (s.cells.map (Value.int .i64))::bH zs::aV 4 1 (.slice psn nb csn) nb (bs.flatMap IY)::bS 1 (.slice pw wl.length cw) wl.length (wl.map (Value.int .i64))::L)->lv+d=12->bs.length=nb->nb=zs.length+1->wl.length<=lv->
 Calls prog 60 #[.agg [.slice pn zs.length cn,.slice pc s.cells.length cc,↑(s.gen:Int)].toArray,.agg [↑i,↑m0,↑a,↑(lv:Int),.slice pw wl.length cw].toArray,.slice psn nb csn] w λe w'=>∃(ok:Bool) (ls:List BL) (ps:List Ct.bA) (bs':List Bool) (pl:Option Addr) (cl:Nat) (pp:Option Addr) (cp:Nat),PlQ s d i a bs ok ls ps bs'/\e=.returned (.tuple #[.slice pl ls.length cl,.slice pp ps.length cp,↑ok])/\SH B w' (bS 2 (.slice pp ps.length cp) ps.length (ps.flatMap aR)::aV 70 5 (.slice pl ls.length cl) ls.length (ls.flatMap Ih)::aV 4 1 (.slice psn nb csn) nb (bs'.flatMap IY)::aV 53 14 (.slice pn zs.length cn) zs.length (zs.flatMap bY)::aV 44 1 (.slice pc s.cells.length cc) s.cells.length (s.cells.map (Value.int .i64))::bH zs::L)
theorem FL(s:Ct.St)(zs:List (Ct.Node×Lq))(pn pc:Option Addr)(cn cc:Nat)(d rn:Nat)(m:Int)(m0 a:Int)(lv:Nat)(wl:List Int)(pw:Option Addr)(cw:Nat)(bs:List Bool)(psn:Option Addr)(csn:Nat)(h:SH B w (aV 53 14 (.slice pn zs.length cn) zs.length (zs.flatMap bY)::aV 44 1 (.slice pc s.cells.length cc) s.cells.length (s.cells.map (Value.int .i64))::bH zs::aV 4 1 (.slice psn bs.length csn) bs.length (bs.flatMap IY)::bS 1 (.slice pw wl.length cw) wl.length (wl.map (Value.int .i64))::L))(fC:zs.map Prod.fst=aZ s)(hr:s.size<=100000000000)(hCn:∀r,(s.node r).kind=3->(s.node r).aA.length=Bm.pop 64 (s.node r).aC)(KY:∀r,(s.node r).aC<18446744073709551616)(DH:∀r,(s.node r).aH.length<=1000000)(hZ:zs.length<=999999)(hb:Ct.cX s (rn:Int)=(m,true))(K6:(s.node m).bG=true)(YU:rn<bs.length)(hld:lv+d=12)(hbs:bs.length=zs.length+1)(hwl:wl.length<=lv)(N9:∀d',d'<d->GX s zs pn pc cn cc d'):
  Calls prog 60 #[.agg [.slice pn zs.length cn,.slice pc s.cells.length cc,↑(s.gen:Int)].toArray,.agg [↑(rn:Int),↑m0,↑a,↑(lv:Int),.slice pw wl.length cw].toArray,.slice psn bs.length csn] w λe w'=>∃(ok:Bool) (ls:List BL) (ps:List Ct.bA) (bs':List Bool) (pl:Option Addr) (cl:Nat) (pp:Option Addr) (cp:Nat),PlQ s d (rn:Int) a bs ok ls ps bs'/\e=.returned (.tuple #[.slice pl ls.length cl,.slice pp ps.length cp,↑ok])/\SH B w' (bS 2 (.slice pp ps.length cp) ps.length (ps.flatMap aR)::aV 70 5 (.slice pl ls.length cl) ls.length (ls.flatMap Ih)::aV 4 1 (.slice psn bs.length csn) bs.length (bs'.flatMap IY)::aV 53 14 (.slice pn zs.length cn) zs.length (zs.flatMap bY)::aV 44 1 (.slice pc s.cells.length cc) s.cells.length (s.cells.map (Value.int .i64))::bH zs::L):=by
 have Ud:=iI fC
 have Js:s.aG.length+s.cells.length+s.gen+s.acc<=100000000000:=hr
 refine cN func60 ntmps60 h λw h=>?_
 refine jX h λb1 w h=>?_
 refine jX h λb2 w h=>?_
 refine bQ (Ps s zs pn pc cn cc (rn:Int) m true hb (h.fr (.c r2 (.c r2 (.c r2 .n)))) fC hr) λw h=>?_
 refine qg h (λcJ w h=>?_) λcJ w h=>?_
 have Tv:=dH cJ
 refine go h λw h=>?_
 refine rr (Mf rfl rfl rfl rfl) ?_
 have h:=SH.nil 70 5 (SH.WJ (SH.nil 120 2 h))
 exact⟨false,[],[],bs,none,0,none,0,.no (Ct.A6 (by omega)) (by first|exact aW _|omega|(have:=Ei.xT;omega)) (by first|rfl|(rw[tS])|omega|(have:=Ei.len;omega)),rfl,((h.fr (.c r5 (.c r5 (.c r6 .n)))).drop.drop.drop.fr (.c r1 (.c r0 (.c r3 (.c r0 (.c r0 (.c r0 .n)))))))⟩
 have Vu:=dR cJ
 refine go h λw h=>?_
 obtain⟨b6,rfl⟩:=h.fp a5 (by omega)
 refine st (ix (j:=rn) gB.h Sz.h rfl rfl YU)<|go h λw h=>?_
 refine st (ld One.h rfl ((h.ro a5).x sM (by decide) YU false 0 _ rfl))<|go h λw h=>?_
 refine qc h (λfF w h=>?_) λfF w h=>?_
 refine rr (Mf rfl rfl rfl rfl) ?_
 have h:=SH.nil 70 5 (SH.WJ (SH.nil 120 2 h))
 exact⟨false,[],[],bs,none,0,none,0,.no (Ct.K2 fF) (by first|exact aW _|omega|(have:=Ei.xT;omega)) (by first|rfl|(rw[tS])|omega|(have:=Ei.len;omega)),rfl,((h.fr (.c r5 (.c r5 (.c r6 .n)))).drop.drop.drop.fr (.c r1 (.c r0 (.c r3 (.c r0 (.c r0 (.c r0 .n)))))))⟩
 have KV:bs.getD rn false=false:=by simpa using fF
 refine go h λw h=>?_
 refine go h λw h=>?_
 refine sf (sor (enc:=IY) (a:=true) h Sz.h sM AK rfl rfl rfl YU (by omega) u5) ?_
 rintro _ w h
 refine go h λw h=>?_
 refine sf (bu [↑(rn:Int),↑m,↑a,↑(lv:Int),.slice pw wl.length cw] h gB.h Ss.h rfl (by kernel_rfl) rfl (by decide) (by decide)) ?_
 rintro _ w ⟨b8,rfl,h⟩
 refine go h λw h=>?_
 refine cS (eX s zs pn pc cn cc m (h.fr (.c r1 (.c r1 (.c r1 .n)))) fC hr) λq9 w h=>?_
 refine jA h λDJ w h=>?_
 obtain⟨QC,Jw,Mp,Mh⟩:=q9
 have h:=h.fr (.c r1 .n)
 have h:=SH.se (l:=[bE (s.node m) (⟨QC,Jw,Mp,Mh⟩),cP (s.node m) (⟨QC,Jw,Mp,Mh⟩)]) h
 refine go h λw h=>?_
 refine qc h (λjI w h=>?_) λjI w h=>?_
 have JW:=eq_of_beq jI
 refine go h λw h=>?_
 refine drB (F:=[bl DJ (aK (s.node m) (⟨QC,Jw,Mp,Mh⟩)) 53]) [1,3,5,7,9,11] 6 7 [14,16,18] [12,16,18] (by kernel_rfl) h (λw h=>(hC (h.at_ a2) hN)) λw h=>go h λw h=>?_
 refine W3 ?_ ?_
 refine ff (bu [.string (s.node m).key,.int .u64 (((s.node m).value:Nat):Int)] h gB.h Ss.h rfl (by kernel_rfl) rfl (by decide) (by decide)) ?_
 rintro _ w ⟨b17,rfl,h⟩
 refine gz h λw h=>?_
 refine rr (Mf rfl rfl rfl rfl) ?_
 have h:=SH.WJ (h.fr (.c r0 .n))
 exact⟨true,[(⟨(rn:Int),m,a,(lv:Int),pw,wl.length,cw⟩:BL)],[(⟨(s.node m).key,(s.node m).value⟩:Ct.bA)],bs.set rn true,_,_,_,_,⟨(Ct.aC2 hld (by omega) hb KV jI),(by have:=tZ YU KV;show 1+_<=_;omega),(by have h1:=tZ YU KV;have h2:=DH m;show 1+_<=_;omega),(tS ..)⟩,rfl,((h.fr (.c r1 (.c r1 (.c r1 (.c r5 (.c r5 (.c r6 .n))))))).drop.drop.drop.drop.drop.drop.fr (.c r0 (.c r3 (.c r3 (.c r0 (.c r0 (.c r0 .n)))))))⟩
 refine go h λw h=>?_
 refine ff (bu [.string (s.node m).key,.int .u64 (((s.node m).value:Nat):Int)] h gB.h Ss.h rfl (by kernel_rfl) rfl (by decide) (by decide)) ?_
 rintro _ w ⟨b18,rfl,h⟩
 refine gz h λw h=>?_
 refine rr (Mf rfl rfl rfl rfl) ?_
 have h:=SH.WJ (h.fr (.c r0 .n))
 exact⟨true,[(⟨(rn:Int),m,a,(lv:Int),pw,wl.length,cw⟩:BL)],[(⟨(s.node m).key,(s.node m).value⟩:Ct.bA)],bs.set rn true,_,_,_,_,⟨(Ct.aC2 hld (by omega) hb KV jI),(by have:=tZ YU KV;show 1+_<=_;omega),(by have h1:=tZ YU KV;have h2:=DH m;show 1+_<=_;omega),(tS ..)⟩,rfl,((h.fr (.c r1 (.c r1 (.c r1 (.c r5 (.c r5 (.c r6 .n))))))).drop.drop.drop.drop.drop.drop.fr (.c r0 (.c r3 (.c r3 (.c r0 (.c r0 (.c r0 .n)))))))⟩
 have aAt:=bM jI
 refine go h λw h=>?_
 refine qc h (λjV w h=>?_) λjV w h=>?_
 have QM:=eq_of_beq jV
 refine go h λw h=>?_
 refine fD [1,3,5,6,8,10] (by kernel_rfl) h (.c r2 .n) λw h=>go h λw h=>?_
 refine rr (Mf rfl rfl rfl rfl) ?_
 exact⟨true,[(⟨(rn:Int),m,a,(lv:Int),pw,wl.length,cw⟩:BL)],(s.node m).aH,bs.set rn true,_,_,_,_,⟨(Ct.aIn hld (by omega) hb KV jI jV),(by have:=tZ YU KV;show 1+_<=_;omega),(by have h1:=tZ YU KV;have h2:=DH m;skip;omega),(tS ..)⟩,rfl,((h.fr (.c r0 (.c r1 (.c r5 (.c r5 (.c r6 .n)))))).drop.drop.drop.drop.drop.fr (.c r0 (.c r3 (.c r3 (.c r0 (.c r0 (.c r0 .n)))))))⟩
 have L5:=bM jV
 refine go h λw h=>?_
 refine cl (ca eF rfl) ((AJ (s.node m).aC (h.fr .n) (KY m)).mono ?_)
 rintro _ w ⟨M0,JX,pL,hix,rfl,h⟩
 have oO:(s.node m).kind=3:=by have hz:=K6;unfold Ct.Node.bG at hz;rw[jI,jV]at hz;simpa using hz
 have hbr:=hCn m oO
 have h64:=Bm.lW 64 (s.node m).aC
 refine⟨_,rfl,?_⟩
 refine st (sg rfl)<|xe<|nx<|sq<|sq<|rg<|st (sg rfl)<|xe<|nx<|bk<|?_
 have h:=SH.nil 120 2 h
 have h:SH B w (aV 120 2 (.slice none ([]:List Ct.bA).length 0) ([]:List Ct.bA).length (([]:List Ct.bA).flatMap aR)::aV 3 1 (.slice M0 pL.length JX) pL.length (pL.map (Value.int .i64))::bS 1 (.slice QC (s.node m).aA.length Jw) (s.node m).aA.length ((s.node m).aA.map (Value.int .i64))::bS 2 (.slice Mp (s.node m).aH.length Mh) (s.node m).aH.length ((s.node m).aH.flatMap aR)::bl DJ (aK (s.node m) (⟨QC,Jw,Mp,Mh⟩)) 53::aV 53 14 (.slice pn zs.length cn) zs.length (zs.flatMap bY)::aV 44 1 (.slice pc s.cells.length cc) s.cells.length (s.cells.map (Value.int .i64))::bH zs::aV 70 5 (.slice (some ⟨b8,0,none⟩) ([(⟨(rn:Int),m,a,(lv:Int),pw,wl.length,cw⟩:BL)]).length 1) ([(⟨(rn:Int),m,a,(lv:Int),pw,wl.length,cw⟩:BL)]).length (([(⟨(rn:Int),m,a,(lv:Int),pw,wl.length,cw⟩:BL)]).flatMap Ih)::bl b2 ([↑(rn:Int),↑m,↑a,↑(lv:Int),.slice pw wl.length cw]) 70::bl b1 ([.slice pn zs.length cn,.slice pc s.cells.length cc,↑(s.gen:Int)]) 42::aV 4 1 (.slice (some ⟨b6,0,none⟩) bs.length csn) bs.length ((bs.set rn true).flatMap IY)::bS 1 (.slice pw wl.length cw) wl.length (wl.map (Value.int .i64))::L):=h
 refine lp (α:=Nat×List BL×Option Addr×Nat×List Ct.bA×Option Addr×Nat×List Bool) (λρ=>(.c 2 (.slice (some ⟨b6,0,none⟩) bs.length csn) (.c 3 ↑b1 (.c 4 ↑b2 (.c 6 (.slice ρ.2.2.1 ρ.2.1.length ρ.2.2.2.1) (.c 7 (.slice ρ.2.2.2.2.2.1 ρ.2.2.2.2.1.length ρ.2.2.2.2.2.2.1) (.c 10 ↑DJ (.c 11 (.slice M0 pL.length JX) (.c 12 (.int .i64 (ρ.1:Int)) .n))))))))) (λρ w=>SH B w (aV 120 2 (.slice ρ.2.2.2.2.2.1 ρ.2.2.2.2.1.length ρ.2.2.2.2.2.2.1) ρ.2.2.2.2.1.length (ρ.2.2.2.2.1.flatMap aR)::aV 70 5 (.slice ρ.2.2.1 ρ.2.1.length ρ.2.2.2.1) ρ.2.1.length (ρ.2.1.flatMap Ih)::aV 4 1 (.slice (some ⟨b6,0,none⟩) bs.length csn) bs.length (ρ.2.2.2.2.2.2.2.flatMap IY)::aV 3 1 (.slice M0 pL.length JX) pL.length (pL.map (Value.int .i64))::bS 1 (.slice QC (s.node m).aA.length Jw) (s.node m).aA.length ((s.node m).aA.map (Value.int .i64))::bS 2 (.slice Mp (s.node m).aH.length Mh) (s.node m).aH.length ((s.node m).aH.flatMap aR)::bl DJ (aK (s.node m) (⟨QC,Jw,Mp,Mh⟩)) 53::aV 53 14 (.slice pn zs.length cn) zs.length (zs.flatMap bY)::aV 44 1 (.slice pc s.cells.length cc) s.cells.length (s.cells.map (Value.int .i64))::bH zs::bl b2 ([↑(rn:Int),↑m,↑a,↑(lv:Int),.slice pw wl.length cw]) 70::bl b1 ([.slice pn zs.length cn,.slice pc s.cells.length cc,↑(s.gen:Int)]) 42::bS 1 (.slice pw wl.length cw) wl.length (wl.map (Value.int .i64))::L)/\(ρ.1<=(s.node m).aA.length)/\(ρ.2.1.length+Xn ρ.2.2.2.2.2.2.2<=Xn bs)/\(ρ.2.2.2.2.1.length+1000000*Xn ρ.2.2.2.2.2.2.2+1000000<=ρ.1+1000000*Xn bs)/\(ρ.2.2.2.2.2.2.2.length=bs.length)/\(Ct.DB s (λb bs=>Ct.Ll s (d-1) b (rn:Int) bs) ((s.node m).aA.drop ρ.1) (ρ.2.1.map WO) ρ.2.2.2.2.1 ρ.2.2.2.2.2.2.2=Ct.Ll s d (rn:Int) a bs)) (λρ=>(s.node m).aA.length -ρ.1) (0,[(⟨(rn:Int),m,a,(lv:Int),pw,wl.length,cw⟩:BL)],some ⟨b8,0,none⟩,1,[],none,0,bs.set rn true) ⟨rfl,rfl,rfl,rfl,rfl,rfl,rfl,rfl,trivial⟩ ⟨(h.fr (.c r0 (.c r7 (.c r9 (.c r0 (.c r0 (.c r0 (.c r0 (.c r0 (.c r0 (.c r0 (.c r0 (.c r0 (.c r0 .n)))))))))))))),(bZ _),(by have:=tZ YU KV;show 1+Xn (bs.set rn true)<=Xn bs;omega),(by have:=tZ YU KV;show 0+1000000*Xn (bs.set rn true)+1000000<=0+1000000*Xn bs;omega),(tS ..),(Ct.aJo hld (by omega) hb KV jI jV)⟩ ?_
 rintro⟨k,ls,pl,cl,ps,pq,cq,bs2⟩ w ⟨h,hk,hl,hpq,TX,YN⟩
 dsimp only at *
 refine go h λw h=>?_
 rcases dQ (decide (((k:Int):Int)<(((s.node m).aA.length:Nat):Int)))with kQ|kQ
 have aAf:=dH kQ
 refine ct rfl kQ<|sk<|nx<|sq<|bk<|?_
 obtain⟨P7,o29,rfl⟩:=h.fq a4 (by omega)
 refine sm (λe w=>∃b31:Nat,∃QG:Lq,Sub 136 e (.c 2 (.slice (some ⟨b6,0,none⟩) bs.length csn) (.c 3 ↑b1 (.c 4 ↑b2 (.c 6 (.slice pl ls.length cl) (.c 7 (.slice pq ps.length cq) (.c 10 ↑DJ (.c 11 (.slice M0 pL.length JX) (.c 12 ↑(k:Int) (.c 13 ↑b31 .n)))))))))/\SH B w (bl b31 (aK (s.node ((s.node m).aA.getD k 0)) QG) 53::aL (s.node ((s.node m).aA.getD k 0)) QG::aV 53 14 (.slice pn zs.length cn) zs.length (zs.flatMap bY)::aV 44 1 (.slice pc s.cells.length cc) s.cells.length (s.cells.map (Value.int .i64))::bH zs::aV 120 2 (.slice pq ps.length cq) ps.length (ps.flatMap aR)::aV 70 5 (.slice pl ls.length cl) ls.length (ls.flatMap Ih)::aV 4 1 (.slice (some ⟨b6,0,none⟩) bs.length csn) bs.length (bs2.flatMap IY)::aV 3 1 (.slice M0 pL.length JX) pL.length (pL.map (Value.int .i64))::bS 1 (.slice (some ⟨P7,o29,none⟩) (s.node m).aA.length Jw) (s.node m).aA.length ((s.node m).aA.map (Value.int .i64))::bS 2 (.slice Mp (s.node m).aH.length Mh) (s.node m).aH.length ((s.node m).aH.flatMap aR)::bl DJ (aK (s.node m) (⟨some ⟨P7,o29,none⟩,Jw,Mp,Mh⟩)) 53::bl b2 ([↑(rn:Int),↑m,↑a,↑(lv:Int),.slice pw wl.length cw]) 70::bl b1 ([.slice pn zs.length cn,.slice pc s.cells.length cc,↑(s.gen:Int)]) 42::bS 1 (.slice pw wl.length cw) wl.length (wl.map (Value.int .i64))::L)) ?_ ?_
 refine drB (F:=[bl b1 ([.slice pn zs.length cn,.slice pc s.cells.length cc,↑(s.gen:Int)]) 42,bl DJ (aK (s.node m) (⟨some ⟨P7,o29,none⟩,Jw,Mp,Mh⟩)) 53,bS 1 (.slice (some ⟨P7,o29,none⟩) (s.node m).aA.length Jw) (s.node m).aA.length ((s.node m).aA.map (Value.int .i64))]) [1,3,5,7,9,11] 6 7 [14,16] [12,16] (by kernel_rfl) h (λw h=>(hC (h.at_ a11) (hC (h.at_ a6) (hC (h.at_ a4) hN)))) λw h=>go h λw h=>?_
 refine W3 ?_ ?_
 refine nP (eX s zs pn pc cn cc ((s.node m).aA.getD k 0) (h.fr (.c r7 (.c r7 (.c r7 .n)))) fC hr) λQG w h=>?_
 refine jB h λb31 w h=>?_
 exact⟨b31,QG,⟨rfl,rfl,rfl,rfl,rfl,rfl,rfl,rfl,rfl,trivial⟩,h⟩
 refine jB h λb32 w h=>?_
 refine nP (eX s zs pn pc cn cc ((s.node m).aA.getD k 0) (h.fr (.c r8 (.c r8 (.c r8 .n)))) fC hr) λq33 w h=>?_
 exact⟨b32,q33,⟨rfl,rfl,rfl,rfl,rfl,rfl,rfl,rfl,rfl,trivial⟩,(h.fr (.c r4 (.c r0 (.c r0 (.c r0 (.c r0 (.c r0 (.c r0 (.c r0 (.c r0 (.c r0 (.c r0 (.c r0 (.c r0 (.c r0 (.c r0 .n))))))))))))))))⟩
 rintro e w ⟨b31,QG,hE,h⟩
 refine C.sub hE ?_
 clear hE e
 refine go h λw h=>?_
 refine qc h (λmE w h=>?_) λmE w h=>?_
 have aL5:=eq_of_beq mE
 refine go h λw h=>?_
 refine sf (bu [.string (s.node ((s.node m).aA.getD k 0)).key,.int .u64 (((s.node ((s.node m).aA.getD k 0)).value:Nat):Int)] h gB.h Ss.h rfl (by kernel_rfl) rfl (by decide) (by decide)) ?_
 rintro _ w ⟨b36,rfl,h⟩
 refine go h λw h=>?_
 refine sf (ap h fB rfl tO rfl (by decide) rfl rfl (λ_=>u6) (h.ro a0) (by simp[Value.oneCell']) (FN ps (⟨(s.node ((s.node m).aA.getD k 0)).key,(s.node ((s.node m).aA.getD k 0)).value⟩:Ct.bA)) (jM (enc:=aR) ps (⟨(s.node ((s.node m).aA.getD k 0)).key,(s.node ((s.node m).aA.getD k 0)).value⟩:Ct.bA)) (by have h3:=Dt bs;unfold maxLen;simp;omega) (by have h3:=Dt bs;simp;omega))<|?_
 rintro _ w ⟨p37,c38,rfl,h⟩
 refine st (sg rfl)<|xe<|nx<|xt<|tx<|be<|nx<|rg<|st (mv rfl)<|st (bw rfl rfl (iR (c:=((k+1:Nat):Int)) (by omega) (by omega) (by omega)))<|st (sg rfl)<|xe<|nx<|?_
 refine go h λw h=>?_
 exact⟨((k+1),ls,pl,cl,ps++[(⟨(s.node ((s.node m).aA.getD k 0)).key,(s.node ((s.node m).aA.getD k 0)).value⟩:Ct.bA)],p37,c38,bs2),⟨rfl,rfl,rfl,rfl,rfl,rfl,rfl,rfl,trivial⟩,⟨(h.drop.drop.drop.fr (.c r3 (.c r3 (.c r3 (.c r3 (.c r3 (.c r3 (.c r3 (.c r0 (.c r0 (.c r0 (.c r0 (.c r0 (.c r0 .n)))))))))))))),(by(try dsimp only);omega),hl,(by dsimp only;rw[cV];simp only[Hd,List.length_nil];omega),TX,(Ct.aI2 YN (by omega) mE)⟩,by(try dsimp only);omega⟩
 have aKl:=bM mE
 refine go h λw h=>?_
 rcases dQ (((s.node ((s.node m).aA.getD k 0)).kind:Int) != 2)with By|By
 have aPl:=bne_iff_ne.1 By
 refine go h λw h=>?_
 refine rr (Mf rfl rfl rfl rfl) ?_
 have h:=SH.nil 70 5 (SH.WJ (SH.nil 120 2 h))
 exact⟨false,[],[],bs2,none,0,none,0,.no (Ct.aJ5 YN (by omega) mE By) (by first|exact aW _|omega|(have:=Ei.xT;omega)) (by first|rfl|(rw[tS])|omega|(have:=Ei.len;omega)),rfl,((h.fr (.c r2 (.c r2 (.c r5 (.c r5 (.c r6 (.c r6 (.c r6 (.c r6 (.c r6 (.c r6 (.c r6 .n)))))))))))).drop.drop.drop.drop.drop.drop.drop.drop.drop.drop.drop.fr (.c r1 (.c r0 (.c r3 (.c r0 (.c r0 (.c r0 .n)))))))⟩
 have aGf:=eT By
 refine cf rfl By<|sk<|nx<|?_
 obtain⟨b43,rfl⟩:=h.fp a8 (by omega)
 refine sm (λe w=>∃p48:Option Addr,∃c49:Nat,Sub 136 e (.c 2 (.slice (some ⟨b6,0,none⟩) bs.length csn) (.c 3 (.pointer (some ⟨b1,0,none⟩)) (.c 4 (.pointer (some ⟨b2,0,none⟩)) (.c 6 (.slice pl ls.length cl) (.c 7 (.slice pq ps.length cq) (.c 10 (.pointer (some ⟨DJ,0,none⟩)) (.c 11 (.slice (some ⟨b43,0,none⟩) pL.length JX) (.c 12 (.int .i64 (k:Int)) (.c 14 (.slice p48 (wl++[pL.getD k 0]).length c49) .n)))))))))/\SH B w (aV 3 1 (.slice p48 (wl++[pL.getD k 0]).length c49) (wl++[pL.getD k 0]).length ((wl++[pL.getD k 0]).map (Value.int .i64))::bl b31 (aK (s.node ((s.node m).aA.getD k 0)) QG) 53::aL (s.node ((s.node m).aA.getD k 0)) QG::aV 53 14 (.slice pn zs.length cn) zs.length (zs.flatMap bY)::aV 44 1 (.slice pc s.cells.length cc) s.cells.length (s.cells.map (Value.int .i64))::bH zs::aV 120 2 (.slice pq ps.length cq) ps.length (ps.flatMap aR)::aV 70 5 (.slice pl ls.length cl) ls.length (ls.flatMap Ih)::aV 4 1 (.slice (some ⟨b6,0,none⟩) bs.length csn) bs.length (bs2.flatMap IY)::aV 3 1 (.slice (some ⟨b43,0,none⟩) pL.length JX) pL.length (pL.map (Value.int .i64))::bS 1 (.slice (some ⟨P7,o29,none⟩) (s.node m).aA.length Jw) (s.node m).aA.length ((s.node m).aA.map (Value.int .i64))::bS 2 (.slice Mp (s.node m).aH.length Mh) (s.node m).aH.length ((s.node m).aH.flatMap aR)::bl DJ (aK (s.node m) (⟨some ⟨P7,o29,none⟩,Jw,Mp,Mh⟩)) 53::bl b2 ([.int .i64 (rn:Int),.int .i64 m,.int .i64 a,.int .i64 (lv:Int),.slice pw wl.length cw]) 70::bl b1 ([.slice pn zs.length cn,.slice pc s.cells.length cc,.int .i64 (s.gen:Int)]) 42::bS 1 (.slice pw wl.length cw) wl.length (wl.map (Value.int .i64))::L)) ?_ ?_
 refine drT (F:=[bl b2 ([↑(rn:Int),↑m,↑a,↑(lv:Int),.slice pw wl.length cw]) 70,aV 3 1 (.slice (some ⟨b43,0,none⟩) pL.length JX) pL.length (pL.map (Value.int .i64))]) (.op 1 true (.op 2 true (.op 4 true (.op 5 true (.op 6 true (.op 7 true (.fork 0 8 (.fork 3 8 (.op 8 false (.op 9 false (.op 10 false .stop))) (.op 3 false (.op 9 false (.op 10 false .stop)))) (.op 0 false (.op 3 false (.op 9 false (.op 10 false .stop))))))))))) (by kernel_rfl) h (λw h=>(hC (h.at_ a12) (hC (h.at_ a8) hN))) λw h=>go h λw h=>?_
 refine Zb ?_ ?_
 refine ff (bu [] h gB.h Ss.h rfl (by kernel_rfl) rfl (by decide) (by decide)) ?_
 rintro _ w ⟨b44,rfl,h⟩
 refine gz h λw h=>?_
 refine Zb ?_ ?_
 refine ff (ZC h a15 a0 gB.h rfl Ss.h rfl (by decide) rfl rfl (λ_=>u0) (nF _) (wS _) (Qs _) (by unfold maxLen;omega) (by omega)) ?_
 rintro _ w ⟨p45,c46,rfl,h⟩
 refine gz h λw h=>?_
 refine ff (bu [.int .i64 (pL.getD k 0)] h gB.h Ss.h rfl (by kernel_rfl) rfl (by decide) (by decide)) ?_
 rintro _ w ⟨b47,rfl,h⟩
 refine gz h λw h=>?_
 refine ff (ap h gB.h rfl Ss.h rfl (by decide) rfl rfl (λ_=>u1) (h.ro a0) (by simp[Value.oneCell']) (FN wl (pL.getD k 0)) (fK _ _) (by unfold maxLen;simp;omega) (by simp;omega)) ?_
 rintro _ w ⟨p48,c49,rfl,h⟩
 refine gz h λw h=>?_
 exact⟨p48,c49,⟨rfl,rfl,rfl,rfl,rfl,rfl,rfl,rfl,rfl,trivial⟩,h.drop⟩
 refine ff (bu [.int .i64 (pL.getD k 0)] h gB.h Ss.h rfl (by kernel_rfl) rfl (by decide) (by decide)) ?_
 rintro _ w ⟨b50,rfl,h⟩
 refine gz h λw h=>?_
 refine ff (ZC h a16 a1 gB.h rfl Ss.h rfl (by decide) rfl rfl (λ_=>u1) (nF _) (wS _) (Qs _) (by unfold maxLen;omega) (by omega)) ?_
 rintro _ w ⟨p51,c52,rfl,h⟩
 refine gz h λw h=>?_
 refine ff (ap h gB.h rfl Ss.h rfl (by decide) rfl rfl (λ_=>u1) (h.ro a0) (by simp[Value.oneCell']) (FN wl (pL.getD k 0)) (fK _ _) (by unfold maxLen;simp;omega) (by simp;omega)) ?_
 rintro _ w ⟨p53,c54,rfl,h⟩
 refine gz h λw h=>?_
 exact⟨p53,c54,⟨rfl,rfl,rfl,rfl,rfl,rfl,rfl,rfl,rfl,trivial⟩,h.drop⟩
 refine ff (bu [.int .i64 (pL.getD k 0)] h gB.h Ss.h rfl (by kernel_rfl) rfl (by decide) (by decide)) ?_
 rintro _ w ⟨b55,rfl,h⟩
 refine gz h λw h=>?_
 refine ff (bu [] h gB.h Ss.h rfl (by kernel_rfl) rfl (by decide) (by decide)) ?_
 rintro _ w ⟨b56,rfl,h⟩
 refine gz h λw h=>?_
 refine ff (ZC h a16 a0 gB.h rfl Ss.h rfl (by decide) rfl rfl (λ_=>u0) (nF _) (wS _) (Qs _) (by unfold maxLen;omega) (by omega)) ?_
 rintro _ w ⟨p57,c58,rfl,h⟩
 refine gz h λw h=>?_
 refine ff (ap h gB.h rfl Ss.h rfl (by decide) rfl rfl (λ_=>u0) (h.ro a1) (by simp[Value.oneCell']) (FN wl (pL.getD k 0)) (fK _ _) (by unfold maxLen;simp;omega) (by simp;omega)) ?_
 rintro _ w ⟨p59,c60,rfl,h⟩
 refine gz h λw h=>?_
 exact⟨p59,c60,⟨rfl,rfl,rfl,rfl,rfl,rfl,rfl,rfl,rfl,trivial⟩,(h.fr (.c r1 .n)).drop⟩
 rintro e w ⟨p48,c49,hE,h⟩
 refine C.sub hE ?_
 clear hE e
 refine go h λw h=>?_
 have h:=SH.WJ (h.fr (.c r0 .n))
 refine fD [1,3,5,7,9,11,13,15,17,19,21,23,25,27,28,31,33,35,37,38,40,42] (by kernel_rfl) h (.c r14 (.c r12 (.c r10 (.c r11 .n)))) λw h=>go h λw h=>?_
 refine cs (ca eF rfl) ((N9 (d-1) (by omega) ((s.node m).aA.getD k 0) 0 (rn:Int) (lv+1) (wl++[pL.getD k 0]) p48 c49 bs2 (some ⟨b6,0,none⟩) csn bs.length _ _ _ (h.fr (.c r3 (.c r3 (.c r3 (.c r5 (.c r0 .n)))))) (by omega) TX (by omega) (by rw[cV];simp only[Hd,List.length_nil];omega)).mono ?_)
 rintro _ w ⟨ZO,Jz,R4,bs3,Tz,Ts,pp2,cp2,Ei,rfl,h⟩
 have h:=SH.WJ (h.fr (.c r1 .n))
 refine⟨_,rfl,h.hs (.c r15 (.c r13 (.c r11 (.c r12 .n)))),?_⟩
 refine tk (λW H=>mv rfl)<|tk (λW H=>xr rfl rfl)<|tk (λW H=>xr rfl rfl)<|tk (λW H=>xr rfl rfl)<|ef (sg rfl) (h.hs (.c r15 (.c r13 (.c r11 (.c r12 .n)))))<|ef (sg rfl) (h.hs (.c r15 (.c r13 (.c r11 (.c r12 .n)))))<|ef (sg rfl) (h.hs (.c r15 (.c r13 (.c r11 (.c r12 .n)))))<|xz<|nx<|sq<|sq<|rg<|st (mv rfl)<|st (nt rfl)<|xe<|nx<|?_
 refine go h λw h=>?_
 refine qc h (λCQ w h=>?_) λCQ w h=>?_
 have Ek:ZO=false:=(gZ _).mp CQ
 refine go h λw h=>?_
 refine rr (Mf rfl rfl rfl rfl) ?_
 have h:=SH.nil 70 5 (SH.WJ (SH.nil 120 2 h))
 exact⟨false,[],[],bs3,none,0,none,0,.no (Ct.aDy YN (by omega) mE By CQ Ei.fn) (by first|exact aW _|omega|(have:=Ei.xT;omega)) (by first|rfl|(rw[tS])|omega|(have:=Ei.len;omega)),rfl,((h.fr (.c r2 (.c r2 (.c r6 (.c r6 (.c r6 (.c r6 (.c r6 (.c r6 (.c r6 (.c r6 (.c r6 (.c r6 (.c r6 .n)))))))))))))).drop.drop.drop.drop.drop.drop.drop.drop.drop.drop.drop.drop.drop.fr (.c r1 (.c r0 (.c r0 (.c r0 (.c r0 (.c r0 .n)))))))⟩
 have yB:ZO=true:=(hU _).mp CQ
 refine go h λw h=>?_
 refine sf (ZC h a0 a9 gB.h rfl Ss.h rfl (by decide) rfl rfl (λ_=>u9) (lN F3 _) (cV ..).symm (List.flatMap_append ..).symm (by have h1:=Ei.xT;have h3:=Dt bs;unfold maxLen;simp;omega) (by have h1:=Ei.xT;have h3:=Dt bs;simp;omega)) ?_
 rintro _ w ⟨p64,c65,rfl,h⟩
 refine go h λw h=>?_
 refine sf (ZC h a1 a8 gB.h rfl Ss.h rfl (by decide) rfl rfl (λ_=>u8) (lN eW _) (cV ..).symm (List.flatMap_append ..).symm (by have h1:=Ei.aH;have h3:=Dt bs;unfold maxLen;simp;omega) (by have h1:=Ei.aH;have h3:=Dt bs;simp;omega)) ?_
 rintro _ w ⟨p66,c67,rfl,h⟩
 refine go h λw h=>?_
 exact⟨((k+1),ls++Jz,p64,c65,ps++R4,p66,c67,bs3),⟨rfl,rfl,rfl,rfl,rfl,rfl,rfl,rfl,trivial⟩,⟨((h.fr (.c r0 (.c r0 (.c r4 (.c r4 .n))))).drop.drop.drop.drop.fr (.c r4 (.c r4 (.c r0 (.c r3 (.c r3 (.c r3 (.c r3 (.c r0 (.c r0 (.c r0 (.c r0 (.c r0 (.c r0 .n)))))))))))))),(by(try dsimp only);omega),(by have h1:=Ei.xT;dsimp only;rw[cV];omega),(by have h1:=Ei.aH;dsimp only;rw[cV];omega),(by have h1:=Ei.len;dsimp only;omega),(by dsimp only;rw[Md];exact Ct.aK0 YN (by omega) mE By CQ Ei.fn)⟩,by(try dsimp only);omega⟩
 have bBj:=dR kQ
 refine go h λw h=>?_
 refine rr (Mf rfl rfl rfl rfl) ?_
 have h:=SH.WJ (h.fr (.c r0 .n))
 exact⟨true,ls,ps,bs2,_,_,_,_,⟨(Ct.aJ4 YN (by omega)),hl,(by have h1:=hpq;omega),TX⟩,rfl,(h.fr (.c r3 (.c r3 (.c r3 (.c r3 (.c r6 (.c r6 (.c r6 .n)))))))).drop.drop.drop.drop.drop.drop.drop⟩
theorem GA(s:Ct.St)(zs:List (Ct.Node×Lq))(pn pc:Option Addr)(cn cc:Nat)(fC:zs.map Prod.fst=aZ s)(hr:s.size<=100000000000)(hCn:∀r,(s.node r).kind=3->(s.node r).aA.length=Bm.pop 64 (s.node r).aC)(KY:∀r,(s.node r).aC<18446744073709551616)(DH:∀r,(s.node r).aH.length<=1000000)(hZ:zs.length<=999999):∀d,GX s zs pn pc cn cc d:=by
 intro d
 induction d using Nat.strongRecOn with
 |ind d N9=>
  intro i m0 a lv wl pw cw bs psn csn nb B w L h hld hnb hbs hwl
  subst hnb
  cases TX:(Ct.cX s i).2 with
  |false=>exact NZ s zs pn pc cn cc d i m0 a lv wl pw cw bs psn csn h fC hr (by rw[<- TX])
  |true=>
   obtain⟨hk,K6⟩:=Ct.GF TX
   obtain⟨rn,rfl⟩:∃rn:Nat,i=(rn:Int):=⟨i.toNat,by
    rcases Int.lt_or_le i 1 with h1|h1
    ·rw[uE s i (by omega)]at hk;exact absurd hk (by decide)
    ·omega⟩
   have Ud:=iI fC
   have YU:rn<bs.length:=by
    rcases Gg rn bs.length with h1|h1
    ·exact h1
    ·rw[uE s _ (by omega)]at hk;exact absurd hk (by decide)
   exact FL s zs pn pc cn cc d rn (Ct.cX s (rn:Int)).1 m0 a lv wl pw cw bs psn csn h fC hr hCn KY DH hZ (by rw[<- TX]) K6 YU hld hbs hwl N9
theorem yR(s:Ct.St)(zs:List (Ct.Node×Lq))(pn pc:Option Addr)(cn cc:Nat)(t:Ct.aX)(h:SH B w (aV 53 14 (.slice pn zs.length cn) zs.length (zs.flatMap bY)::aV 44 1 (.slice pc s.cells.length cc) s.cells.length (s.cells.map (Value.int .i64))::bH zs::L))(fC:zs.map Prod.fst=aZ s)(hr:s.size<=100000000000)(hp:Ct.lB s)(hf:∀n∈aZ s,n.aA.length<=1000000/\n.aH.length<=200000000000/\n.aC<18446744073709551616)(hCn:∀r,(s.node r).kind=3->(s.node r).aA.length=Bm.pop 64 (s.node r).aC)(KY:∀r,(s.node r).aC<18446744073709551616)(DH:∀r,(s.node r).aH.length<=1000000)(hZ:zs.length<=999999):
  Calls prog 21 #[.agg [.slice pn zs.length cn,.slice pc s.cells.length cc,↑(s.gen:Int)].toArray,.agg [↑t.root,↑t.readOnly].toArray] w λe w'=>∃(ok:Bool) (ls:List BL) (ps:List Ct.bA) (pl:Option Addr) (cl:Nat) (pp:Option Addr) (cp:Nat),(Ct.Xo s t=(ok,ls.map WO,ps)/\ls.length<=1000000)/\e=.returned (.tuple #[.slice pl ls.length cl,.slice pp ps.length cp,↑ok])/\SH B w' (bS 2 (.slice pp ps.length cp) ps.length (ps.flatMap aR)::aV 70 5 (.slice pl ls.length cl) ls.length (ls.flatMap Ih)::aV 53 14 (.slice pn zs.length cn) zs.length (zs.flatMap bY)::aV 44 1 (.slice pc s.cells.length cc) s.cells.length (s.cells.map (Value.int .i64))::bH zs::L):=by
 have Ud:=iI fC
 have Js:s.aG.length+s.cells.length+s.gen+s.acc<=100000000000:=hr
 refine cN func21 ntmps21 h λw h=>?_
 refine jX h λb1 w h=>?_
 refine jX h λb2 w h=>?_
 refine bQ (WL _ _ _ _ _ _ _ h.to fC hr hp hf) λw h=>?_
 refine qc h (λcJ w h=>?_) λcJ w h=>?_
 have eB:(Ct.rootOf s t).2=false:=(gZ _).mp cJ
 refine go h λw h=>?_
 refine rr (Mf rfl rfl rfl rfl) ?_
 have h:=SH.nil 70 5 (SH.WJ (SH.nil 120 2 h))
 exact⟨false,[],[],none,0,none,0,⟨Ct.ZW (by simpa using eB),bZ _⟩,rfl,(h.to.fr (.c r1 (.c r0 (.c r0 (.c r0 (.c r0 .n))))))⟩
 have dM:(Ct.rootOf s t).2=true:=(hU _).mp cJ
 refine go h λw h=>?_
 refine fD [1,3,5,7,9,11,13,14,16,19,21,23,25,26,28,30] (by kernel_rfl) h (.c r4 .n) λw h=>go h λw h=>?_
 refine ff (mk h gB.h Ss.h rfl rfl (by omega) (by unfold maxLen;omega)) ?_
 rintro _ w ⟨b6,rfl,h⟩
 rw[vO sM (by decide) (d:=false) rfl]at h
 refine gz h λw h=>?_
 have h:=SH.MT 1 h
 refine cs (ca eF rfl) ((GA s zs pn pc cn cc fC hr hCn KY DH hZ 12 (Ct.rootOf s t).1 0 0 0 [] none 0 (List.replicate (zs.length+1) false) (some ⟨b6,0,none⟩) (zs.length+1) (zs.length+1) _ _ _ (h.fr (.c r2 (.c r2 (.c r2 (.c r1 (.c r0 .n)))))) rfl (NU ..) rfl (aW _)).mono ?_)
 rintro _ w ⟨ZO,Jz,R4,bs3,Tz,Ts,pp2,cp2,Ei,rfl,h⟩
 refine⟨_,rfl,h.hs (.c r7 .n),?_⟩
 refine tk (λW H=>mv rfl)<|tk (λW H=>xr rfl rfl)<|tk (λW H=>xr rfl rfl)<|tk (λW H=>xr rfl rfl)<|ef (sg rfl) (h.hs (.c r7 .n))<|ef (sg rfl) (h.hs (.c r7 .n))<|ef (sg rfl) (h.hs (.c r7 .n))<|xz<|nx<|sq<|sq<|rg<|st (mv rfl)<|st (nt rfl)<|xe<|nx<|?_
 refine go h λw h=>?_
 refine qc h (λfF w h=>?_) λfF w h=>?_
 have fG:ZO=false:=(gZ _).mp fF
 refine go h λw h=>?_
 refine rr (Mf rfl rfl rfl rfl) ?_
 have h:=SH.nil 70 5 (SH.WJ (SH.nil 120 2 h))
 exact⟨false,[],[],none,0,none,0,⟨Ct.aBt (by simpa using dM) (n:=zs.length+1) (by have:=iI fC;omega) (by first|exact fG|(rw[fG];rfl)) Ei.fn,bZ _⟩,rfl,(h.to.fr (.c r1 (.c r0 (.c r0 (.c r0 (.c r0 .n))))))⟩
 have wE:ZO=true:=(hU _).mp fF
 refine go h λw h=>?_
 refine rr (Mf rfl rfl rfl rfl) ?_
 exact⟨true,Jz,R4,_,_,_,_,⟨(by cases ZO with|true=>exact Ct.RQ (by simpa using dM) (n:=zs.length+1) (by have:=iI fC;omega) rfl Ei.fn|false=>cases wE),(by have h1:=Ei.xT;have h2:=Dt (List.replicate (zs.length+1) false);rw[NU]at h2;omega)⟩,rfl,h.to⟩
theorem aEj{a b:Int}(h:(a==b)=true):a=b:=eq_of_beq h
theorem PW(s:Ct.St)(zs:List (Ct.Node×Lq))(pn pc:Option Addr)(cn cc:Nat)(t:Ct.aX)(h:SH B w (aV 53 14 (.slice pn zs.length cn) zs.length (zs.flatMap bY)::aV 44 1 (.slice pc s.cells.length cc) s.cells.length (s.cells.map (Value.int .i64))::bH zs::L))(fC:zs.map Prod.fst=aZ s)(hr:s.size<=100000000000)(hp:Ct.lB s)(hf:∀n∈aZ s,n.aA.length<=1000000/\n.aH.length<=200000000000/\n.aC<18446744073709551616)(hCn:∀r,(s.node r).kind=3->(s.node r).aA.length=Bm.pop 64 (s.node r).aC)(KY:∀r,(s.node r).aC<18446744073709551616)(DH:∀r,(s.node r).aH.length<=1000000)(hZ:zs.length<=999999):
  Calls prog 23 #[.agg [.slice pn zs.length cn,.slice pc s.cells.length cc,↑(s.gen:Int)].toArray,.agg [↑t.root,↑t.readOnly].toArray] w λe w'=>∃q:Bool,(q=true->Ct.Dr s t)/\e=.returned ↑q/\SH B w' (aV 53 14 (.slice pn zs.length cn) zs.length (zs.flatMap bY)::aV 44 1 (.slice pc s.cells.length cc) s.cells.length (s.cells.map (Value.int .i64))::bH zs::L):=by
 have Ud:=iI fC
 have Js:s.aG.length+s.cells.length+s.gen+s.acc<=100000000000:=hr
 refine cN func23 ntmps23 h λw h=>?_
 refine jX h λb1 w h=>?_
 refine jX h λb2 w h=>?_
 refine cl (ca eF rfl) ((yR s zs pn pc cn cc t (h.fr (.c r2 (.c r2 (.c r2 .n)))) fC hr hp hf hCn KY DH hZ).mono ?_)
 rintro _ w ⟨ZO,Jz,R4,Tz,Ts,pp2,cp2,⟨Ei,YH⟩,rfl,h⟩
 refine⟨_,rfl,?_⟩
 refine st (mv rfl)<|st (xr rfl rfl)<|st (xr rfl rfl)<|st (xr rfl rfl)<|st (sg rfl)<|st (sg rfl)<|st (sg rfl)<|xe<|nx<|sq<|sq<|rg<|st (sg rfl)<|xe<|nx<|bk<|?_
 refine go h λw h=>?_
 refine lp (α:=Nat×Bool) (λρ=>(.c 2 ↑b1 (.c 3 ↑b2 (.c 5 (.slice Tz Jz.length Ts) (.c 7 (.bool ρ.2) (.c 8 (.int .i64 (ρ.1:Int)) .n)))))) (λρ w=>SH B w (bS 2 (.slice pp2 R4.length cp2) R4.length (R4.flatMap aR)::aV 70 5 (.slice Tz Jz.length Ts) Jz.length (Jz.flatMap Ih)::aV 53 14 (.slice pn zs.length cn) zs.length (zs.flatMap bY)::aV 44 1 (.slice pc s.cells.length cc) s.cells.length (s.cells.map (Value.int .i64))::bH zs::bl b2 ([↑t.root,↑t.readOnly]) 35::bl b1 ([.slice pn zs.length cn,.slice pc s.cells.length cc,↑(s.gen:Int)]) 42::L)/\(ρ.1<=Jz.length)/\(ρ.2=true->ZO=true/\∀j,j<ρ.1->Ct.rZ s (Jz.getD j {}).i=0)) (λρ=>Jz.length-ρ.1) (0,ZO) ⟨rfl,rfl,rfl,rfl,rfl,trivial⟩ ⟨h,(bZ _),(λh=>⟨h,λj hj=>absurd hj (by omega)⟩)⟩ ?_
 rintro⟨k,okv⟩ w ⟨h,hk,hq⟩
 dsimp only at *
 refine go h λw h=>?_
 refine qg h (λcJ w h=>?_) λcJ w h=>?_
 have Tv:=dH cJ
 refine go h λw h=>?_
 refine qc h (λdM w h=>?_) λdM w h=>?_
 obtain⟨b6,rfl⟩:=h.fp a1 (by omega)
 refine fD [1,3,5,7,9,11,13,14,17,18,20] (by kernel_rfl) h (.c r6 (.c r1 .n)) λw h=>go h λw h=>?_
 refine tk (λW H=>ld One.h rfl ((H.ro a1).x IZ (by decide) (by omega) {} 0 _ rfl))<|go h λw h=>?_
 refine nP (eX _ _ _ _ _ _ _ h.to fC hr) λq7 w h=>?_
 refine qB (qP _ _ _ _ _ _ _ h.to fC hr) λw h=>?_
 refine fD [1,3,5,6,9,10,13,14] (by kernel_rfl) h (.c r7 .n) λw h=>go h λw h=>?_
 refine nP (eX _ _ _ _ _ _ _ h.to fC hr) λq8 w h=>?_
 refine qB (qP _ _ _ _ _ _ _ h.to fC hr) λw h=>?_
 exact⟨((k+1),(((s.load (s.node (s.load (s.node (Jz.getD k {}).i).main).2).prev).2:Int)==0)),⟨rfl,rfl,rfl,rfl,rfl,trivial⟩,⟨(h.to.fr (.c r3 (.c r3 (.c r0 (.c r0 (.c r0 (.c r0 (.c r0 .n)))))))),(by(try dsimp only);omega),(λhz=>n0 (hq dM) (aEj hz))⟩,by(try dsimp only);omega⟩
 refine fD [1,3,5,7,9,11,12,14,17,19,21,22] (by kernel_rfl) h .n λw h=>go h λw h=>?_
 refine rz ?_
 exact⟨false,(λh=>by cases h),rfl,h.to⟩
 have CY:=dR cJ
 refine go h λw h=>?_
 rcases dQ okv with dG|dG<;>refine go h λw h=>?_
 refine fD [1,3,5,7,9,11,12,14,17,19,21,22] (by kernel_rfl) h (.c r6 (.c r5 .n)) λw h=>go h λw h=>?_
 refine qB (qP _ _ _ _ _ _ _ h.to fC hr) λw h=>?_
 refine nP (eX _ _ _ _ _ _ _ h.to fC hr) λUg w h=>?_
 refine rz ?_
 refine⟨(((s.node (s.load t.root).2).kind:Int)==2),λhz=>?_,rfl,h.to⟩
 obtain⟨h1,h2⟩:=hq dG
 exact WC Ei h1 (by omega) h2 (eq_of_beq hz)
 refine fD [1,3,5,7,9,11,12,14,17,19,21,22] (by kernel_rfl) h .n λw h=>go h λw h=>?_
 refine rz ?_
 exact⟨false,(λh=>by cases h),rfl,h.to⟩
theorem Us(s:Ct.St)(zs:List (Ct.Node×Lq))(pn pc:Option Addr)(cn cc:Nat)(t:Ct.aX)(ps:List Ct.bA)(lx:List Ct.FH)(h:SH B w (aV 53 14 (.slice pn zs.length cn) zs.length (zs.flatMap bY)::aV 44 1 (.slice pc s.cells.length cc) s.cells.length (s.cells.map (Value.int .i64))::bH zs::L))(fC:zs.map Prod.fst=aZ s)(hr:s.size<=100000000000)(hp:Ct.lB s)(hf:∀n∈aZ s,n.aA.length<=1000000/\n.aH.length<=200000000000/\n.aC<18446744073709551616)(hCn:∀r,(s.node r).kind=3->(s.node r).aA.length=Bm.pop 64 (s.node r).aC)(KY:∀r,(s.node r).aC<18446744073709551616)(DH:∀r,(s.node r).aH.length<=1000000)(hZ:zs.length<=999999)(he:Ct.Xo s t=(true,lx,ps)):
  Calls prog 57 #[.agg [.slice pn zs.length cn,.slice pc s.cells.length cc,↑(s.gen:Int)].toArray,.agg [↑t.root,↑t.readOnly].toArray] w λe w'=>∃pp cp,e=.returned (.tuple #[.slice pp ps.length cp,.int .i64 0])/\SH B w' (bS 2 (.slice pp ps.length cp) ps.length (ps.flatMap aR)::L):=by
 have Ud:=iI fC
 have Js:s.aG.length+s.cells.length+s.gen+s.acc<=100000000000:=hr
 refine cN func57 ntmps57 h λw h=>?_
 refine jX h λb1 w h=>?_
 refine jX h λb2 w h=>?_
 refine cl (ca eF rfl) ((yR s zs pn pc cn cc t (h.fr (.c r2 (.c r2 (.c r2 .n)))) fC hr hp hf hCn KY DH hZ).mono ?_)
 rintro _ w ⟨ZO,Jz,R4,Tz,Ts,pp2,cp2,⟨Ei,YH⟩,rfl,h⟩
 obtain⟨rfl,rfl,rfl⟩:ZO=true/\Jz.map WO=lx/\R4=ps:=by cases Ei.symm.trans he;exact⟨rfl,rfl,rfl⟩
 refine⟨_,rfl,?_⟩
 refine st (mv rfl)<|st (xr rfl rfl)<|st (xr rfl rfl)<|st (xr rfl rfl)<|st (sg rfl)<|st (sg rfl)<|st (sg rfl)<|xe<|nx<|sq<|sq<|rg<|st (mv rfl)<|st (nt rfl)<|xe<|nx<|cF rfl<|sk<|nx<|sq<|rg<|st (mv rfl)<|st (sg rfl)<|st (sg rfl)<|xe<|nx<|rt<|?_
 refine go h λw h=>?_
 refine rr (iG rfl rfl rfl) ?_
 exact⟨pp2,cp2,rfl,h.to⟩
end Go.Q9
end
