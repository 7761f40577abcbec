/- Parts of a proof: Qu. -/
import Derived.Test.YthhcpkikpammmaaGreatW46
set_option linter.unusedVariables false
set_option linter.unusedSimpArgs false
set_option maxRecDepth 100000
set_option maxHeartbeats 4000000
section
namespace Go.Q9
open Go.Proofs.Tryz
open Go.RowKit Go.E
attribute [local irreducible] gB wpS
variable{B w:World}{L:List As}
theorem GI(b:Nat)(h:SH B w (L))(hb:b<18446744073709551616):
  Calls prog 114 #[.int .u64 (b:Int)] w λe w'=>∃(p:Option Addr) (c:Nat) (xs:List Int),xs.length=Bm.pop 64 b/\e=.returned (.slice p xs.length c)/\SH B w' (aU 3 1 (.slice p xs.length c) xs.length (xs.map (Value.int .i64))::L):=by
 refine Ea (args:=[_]) func114 rfl ntmps114 rfl ?_
 refine sq<|rg<|st (sg rfl)<|xe<|nx<|sq<|rg<|st (sg rfl)<|xe<|nx<|sq<|sq<|rg<|st (sg rfl)<|xe<|nx<|bk<|?_
 have h:=SH.nil 3 1 h
 refine lp (α:=Nat×List Int×Option Addr×Nat) (λρ=>(.c 0 (.int .u64 (b:Int)) (.c 3 (.slice ρ.2.2.1 ρ.2.1.length ρ.2.2.2) (.c 4 (.int .i64 (ρ.1:Int)) .n)))) (λρ w=>SH B w (aU 3 1 (.slice ρ.2.2.1 ρ.2.1.length ρ.2.2.2) ρ.2.1.length (ρ.2.1.map (Value.int .i64))::L)/\(ρ.1<=64)/\(ρ.2.1.length=Bm.pop ρ.1 b)) (λρ=>64-ρ.1) (0,[],none,0) ⟨rfl,rfl,rfl,trivial⟩ ⟨h,(Hg _),(by simp[Bm.pop])⟩ ?_
 rintro⟨k,xs,px,cx⟩ w ⟨h,hk,hx⟩
 dsimp only at *
 refine sq<|sq<|rg<|st (mv rfl)<|st (bi rfl rfl rfl)<|xe<|nx<|?_
 rcases Pe (decide (((k:Int):Int)<64))with hd1|hd1
 have hg2:=bI hd1
 refine ct rfl hd1<|sk<|nx<|sq<|bk<|sq<|rg<|st (mv rfl)<|st (mv rfl)<|cl (ca eF rfl) ((Ix b (k:Int) _ hb).mono ?_)
 rintro _ _ ⟨rfl,rfl⟩
 refine⟨_,rfl,?_⟩
 refine xe<|nx<|?_
 rcases Pe (Bm.has b (k:Int))with hd3|hd3
 refine ct rfl hd3<|rg<|st (mv rfl)<|st (mv rfl)<|sf (bu [↑(k:Int)] h Mx VZ rfl (by kernel_rfl) rfl (by decide) (by decide))<|?_
 rintro _ w ⟨b4,rfl,h⟩
 refine sf (ap h Mx rfl VZ rfl (by decide) rfl rfl (λ_=>u1) (h.ro a0) (by simp[Value.oneCell']) (DB xs (k:Int)) (fD _ _) (by have:=Bm.lR k b;unfold maxLen;simp;omega) (by have:=Bm.lR k b;simp;omega))<|?_
 rintro _ w ⟨p5,c6,rfl,h⟩
 refine st (sg rfl)<|xe<|bn<|nx<|rg<|st (mv rfl)<|st (bw rfl rfl (gN (c:=((k+1:Nat):Int)) (by omega) (by omega) (by omega)))<|st (sg rfl)<|xe<|nx<|?_
 exact⟨(k+1,xs++[(k:Int)],p5,c6),⟨rfl,rfl,rfl,trivial⟩,⟨h.drop,by(try dsimp only);omega,(by have hp:=Bm.cZ k b;have hz:=Bm.nI b k (by omega);rw[hd3]at hz;rw[<- hz]at hp;(try rw[Xb,dP]);rw[hx,hp];rfl)⟩,by(try dsimp only);omega⟩
 refine cf rfl hd3<|sk<|bn<|nx<|rg<|st (mv rfl)<|st (bw rfl rfl (gN (c:=((k+1:Nat):Int)) (by omega) (by omega) (by omega)))<|st (sg rfl)<|xe<|nx<|?_
 exact⟨(k+1,xs,px,cx),⟨rfl,rfl,rfl,trivial⟩,⟨h,by(try dsimp only);omega,(by have hp:=Bm.cZ k b;have hz:=Bm.nI b k (by omega);rw[hd3]at hz;rw[<- hz]at hp;(try rw[Xb,dP]);rw[hx,hp];rfl)⟩,by(try dsimp only);omega⟩
 have hg7:=mD hd1
 refine cf rfl hd1<|xt<|tx<|tx<|be<|nx<|sq<|rg<|st (mv rfl)<|st (sg rfl)<|xe<|nx<|rt<|?_
 refine rr (jP results114 rfl)<|?_
 have hk64:k=64:=by omega
 subst hk64
 exact⟨px,cx,xs,hx,rfl,h⟩
theorem RO(s:Ct.St)(zs:List (Ct.Node×Lq))(pn pc:Option Addr)(cn cc:Nat)(i:Int)(m0 a:Int)(lv:Nat)(wl:List Int)(pw:Option Addr)(cw:Nat)(bs:List Bool)(psn:Option Addr)(csn:Nat)(h:SH B w (aU 68 14 (.slice pn zs.length cn) zs.length (zs.flatMap cB)::aU 36 1 (.slice pc s.cells.length cc) s.cells.length (s.cells.map (Value.int .i64))::bE zs::aU 4 1 (.slice psn bs.length csn) bs.length (bs.flatMap RP)::bV 1 (.slice pw wl.length cw) wl.length (wl.map (Value.int .i64))::L))(hzs:zs.map Prod.fst=aW s)(hr:s.size<=100000000000)(hb:Ct.jM s i=((Ct.jM s i).1,false)):
  Calls prog 70 #[.agg [.slice pn zs.length cn,.slice pc s.cells.length cc,↑(s.gen:Int)].toArray,.agg [↑i,↑m0,↑a,↑(lv:Int),.slice pw wl.length cw].toArray,.slice psn bs.length csn] w λe w'=>∃(ok:Bool) (ls:List JE) (ps:List Ct.bN) (bs':List Bool) (pl:Option Addr) (cl:Nat) (pp:Option Addr) (cp:Nat),PlQ i bs ok ls ps bs'/\e=.returned (.tuple #[.slice pl ls.length cl,.slice pp ps.length cp,↑ok])/\SH B w' (bV 2 (.slice pp ps.length cp) ps.length (ps.flatMap aR)::aU 89 5 (.slice pl ls.length cl) ls.length (ls.flatMap JC)::aU 4 1 (.slice psn bs.length csn) bs.length (bs'.flatMap RP)::aU 68 14 (.slice pn zs.length cn) zs.length (zs.flatMap cB)::aU 36 1 (.slice pc s.cells.length cc) s.cells.length (s.cells.map (Value.int .i64))::bE zs::L):=by
 have hz2:=iC hzs
 have hrm:s.aG.length+s.cells.length+s.gen+s.acc<=100000000000:=hr
 refine Ea (args:=[_,_,_]) func70 rfl ntmps70 rfl ?_
 refine sq<|rg<|sf (bx h rfl rfl)<|?_
 rintro _ w ⟨b1,rfl,h⟩
 refine sf (bx h rfl rfl)<|?_
 rintro _ w ⟨b2,rfl,h⟩
 refine st (sg rfl)<|st (sg rfl)<|st (sg rfl)<|xe<|nx<|sq<|rg<|st (gJ rfl (dK (h.b a1)) iO)<|st (fa pN rfl)<|st (ld yA rfl (h.c a0 rfl))<|cl (ca eF rfl) ((DO s zs pn pc cn cc i (Ct.jM s i).1 false hb (h.fr (.c r2 (.c r2 (.c r2 .n)))) hzs hr).mono ?_)
 rintro _ w ⟨rfl,h⟩
 refine⟨_,rfl,?_⟩
 refine st (mv rfl)<|st (xr rfl rfl)<|st (xr rfl rfl)<|st (sg rfl)<|st (sg rfl)<|xe<|nx<|sq<|sq<|rg<|st (mv rfl)<|st (nt rfl)<|st (mv rfl)<|gF rfl rfl rfl<|gF rfl rfl rfl<|gF rfl rfl rfl<|st (pT rfl rfl rfl)<|st (mv rfl)<|gF rfl rfl rfl<|gF rfl rfl rfl<|gF rfl rfl rfl<|gF rfl rfl rfl<|gF rfl rfl rfl<|st (pT rfl rfl rfl)<|xe<|nx<|cT rfl<|sq<|rg<|st (sg rfl)<|st (sg rfl)<|st (sg rfl)<|xe<|nx<|rt<|tr<|?_
 refine rr (l8 results70 rfl rfl rfl)<|?_
 have h:=SH.nil 89 5 (SH.Ow (SH.nil 168 2 h))
 exact⟨false,[],[],bs,none,0,none,0,.no (bD _) rfl,rfl,((h.fr (.c r5 (.c r5 (.c r6 .n)))).drop.drop.drop.fr (.c r1 (.c r0 (.c r3 (.c r0 (.c r0 (.c r0 .n)))))))⟩
def OL(s:Ct.St)(zs:List (Ct.Node×Lq))(pn pc:Option Addr)(cn cc:Nat)(d:Nat):Prop:=∀(i m0 a:Int) (lv:Nat) (wl:List Int) (pw:Option Addr) (cw:Nat) (bs:List Bool) (psn:Option Addr) (csn nb:Nat) (B w:World) (L:List As),SH B w (aU 68 14 (.slice pn zs.length cn) zs.length (zs.flatMap cB)::aU 36 1 (.slice pc s.cells.length cc) s.cells.length (s.cells.map (Value.int .i64))::bE zs::aU 4 1 (.slice psn nb csn) nb (bs.flatMap RP)::bV 1 (.slice pw wl.length cw) wl.length (wl.map (Value.int .i64))::L)->lv+d=12->bs.length=nb->nb=zs.length+1->wl.length<=lv->
 Calls prog 70 #[.agg [.slice pn zs.length cn,.slice pc s.cells.length cc,↑(s.gen:Int)].toArray,.agg [↑i,↑m0,↑a,↑(lv:Int),.slice pw wl.length cw].toArray,.slice psn nb csn] w λe w'=>∃(ok:Bool) (ls:List JE) (ps:List Ct.bN) (bs':List Bool) (pl:Option Addr) (cl:Nat) (pp:Option Addr) (cp:Nat),PlQ i bs ok ls ps bs'/\e=.returned (.tuple #[.slice pl ls.length cl,.slice pp ps.length cp,↑ok])/\SH B w' (bV 2 (.slice pp ps.length cp) ps.length (ps.flatMap aR)::aU 89 5 (.slice pl ls.length cl) ls.length (ls.flatMap JC)::aU 4 1 (.slice psn nb csn) nb (bs'.flatMap RP)::aU 68 14 (.slice pn zs.length cn) zs.length (zs.flatMap cB)::aU 36 1 (.slice pc s.cells.length cc) s.cells.length (s.cells.map (Value.int .i64))::bE zs::L)
theorem LG(s:Ct.St)(zs:List (Ct.Node×Lq))(pn pc:Option Addr)(cn cc:Nat)(d rn:Nat)(m:Int)(m0 a:Int)(lv:Nat)(wl:List Int)(pw:Option Addr)(cw:Nat)(bs:List Bool)(psn:Option Addr)(csn:Nat)(h:SH B w (aU 68 14 (.slice pn zs.length cn) zs.length (zs.flatMap cB)::aU 36 1 (.slice pc s.cells.length cc) s.cells.length (s.cells.map (Value.int .i64))::bE zs::aU 4 1 (.slice psn bs.length csn) bs.length (bs.flatMap RP)::bV 1 (.slice pw wl.length cw) wl.length (wl.map (Value.int .i64))::L))(hzs:zs.map Prod.fst=aW s)(hr:s.size<=100000000000)(hCn:∀r,(s.node r).kind=3->(s.node r).aA.length=Bm.pop 64 (s.node r).aD)(hbm:∀r,(s.node r).aD<18446744073709551616)(hpr:∀r,(s.node r).aF.length<=1000000)(hZ:zs.length<=999999)(hb:Ct.jM s (rn:Int)=(m,true))(hmain:(s.node m).bM=true)(hrn:rn<bs.length)(hld:lv+d=12)(hbs:bs.length=zs.length+1)(hwl:wl.length<=lv)(hrec:∀d',d'<d->OL s zs pn pc cn cc d'):
  Calls prog 70 #[.agg [.slice pn zs.length cn,.slice pc s.cells.length cc,↑(s.gen:Int)].toArray,.agg [↑(rn:Int),↑m0,↑a,↑(lv:Int),.slice pw wl.length cw].toArray,.slice psn bs.length csn] w λe w'=>∃(ok:Bool) (ls:List JE) (ps:List Ct.bN) (bs':List Bool) (pl:Option Addr) (cl:Nat) (pp:Option Addr) (cp:Nat),PlQ (rn:Int) bs ok ls ps bs'/\e=.returned (.tuple #[.slice pl ls.length cl,.slice pp ps.length cp,↑ok])/\SH B w' (bV 2 (.slice pp ps.length cp) ps.length (ps.flatMap aR)::aU 89 5 (.slice pl ls.length cl) ls.length (ls.flatMap JC)::aU 4 1 (.slice psn bs.length csn) bs.length (bs'.flatMap RP)::aU 68 14 (.slice pn zs.length cn) zs.length (zs.flatMap cB)::aU 36 1 (.slice pc s.cells.length cc) s.cells.length (s.cells.map (Value.int .i64))::bE zs::L):=by
 have hz2:=iC hzs
 have hrm:s.aG.length+s.cells.length+s.gen+s.acc<=100000000000:=hr
 refine Ea (args:=[_,_,_]) func70 rfl ntmps70 rfl ?_
 refine sq<|rg<|sf (bx h rfl rfl)<|?_
 rintro _ w ⟨b1,rfl,h⟩
 refine sf (bx h rfl rfl)<|?_
 rintro _ w ⟨b2,rfl,h⟩
 refine st (sg rfl)<|st (sg rfl)<|st (sg rfl)<|xe<|nx<|sq<|rg<|st (gJ rfl (dK (h.b a1)) iO)<|st (fa pN rfl)<|st (ld yA rfl (h.c a0 rfl))<|cl (ca eF rfl) ((DO s zs pn pc cn cc (rn:Int) m true hb (h.fr (.c r2 (.c r2 (.c r2 .n)))) hzs hr).mono ?_)
 rintro _ w ⟨rfl,h⟩
 refine⟨_,rfl,?_⟩
 refine st (mv rfl)<|st (xr rfl rfl)<|st (xr rfl rfl)<|st (sg rfl)<|st (sg rfl)<|xe<|nx<|sq<|sq<|rg<|st (mv rfl)<|st (nt rfl)<|st (mv rfl)<|gT rfl rfl rfl<|st (fa Bj rfl)<|gT rfl rfl rfl<|st (ld jE rfl (h.c a3 rfl))<|gT rfl rfl rfl<|st (bi rfl rfl rfl)<|st (pF rfl rfl rfl)<|st (mv rfl)<|?_
 rcases Pe (decide (((lv:Int):Int)>11))with hd3|hd3
 have hg4:=bI hd3
 refine gF rfl rfl hd3<|gF rfl rfl hd3<|gF rfl rfl hd3<|gF rfl rfl hd3<|gF rfl rfl hd3<|st (pT rfl hd3 rfl)<|xe<|nx<|cT rfl<|sq<|rg<|st (sg rfl)<|st (sg rfl)<|st (sg rfl)<|xe<|nx<|rt<|tr<|?_
 refine rr (l8 results70 rfl rfl rfl)<|?_
 have h:=SH.nil 89 5 (SH.Ow (SH.nil 168 2 h))
 exact⟨false,[],[],bs,none,0,none,0,.no (by first|exact bD _|omega|(have:=hq2.RZ;omega)) (by first|rfl|(rw[yM])|omega|(have:=hq2.len;omega)),rfl,((h.fr (.c r5 (.c r5 (.c r6 .n)))).drop.drop.drop.fr (.c r1 (.c r0 (.c r3 (.c r0 (.c r0 (.c r0 .n)))))))⟩
 have hg5:=mD hd3
 refine gT rfl rfl hd3<|st (mv rfl)<|gT rfl rfl hd3<|st (fa pN rfl)<|gT rfl rfl hd3<|st (ld yA rfl (h.c a3 rfl))<|gT rfl rfl hd3<|?_
 obtain⟨b6,rfl⟩:=h.fp a5 (by omega)
 refine st (ix (j:=rn) Ey AU rfl rfl hrn)<|gT rfl rfl hd3<|st (ld xN rfl ((h.ro a5).x oN (by decide) hrn false 0 _ rfl))<|st (pF rfl hd3 rfl)<|xe<|nx<|?_
 rcases Pe (bs.getD rn false)with hd7|hd7
 refine ct rfl hd7<|sq<|rg<|st (sg rfl)<|st (sg rfl)<|st (sg rfl)<|xe<|nx<|rt<|tr<|?_
 refine rr (l8 results70 rfl rfl rfl)<|?_
 have h:=SH.nil 89 5 (SH.Ow (SH.nil 168 2 h))
 exact⟨false,[],[],bs,none,0,none,0,.no (by first|exact bD _|omega|(have:=hq2.RZ;omega)) (by first|rfl|(rw[yM])|omega|(have:=hq2.len;omega)),rfl,((h.fr (.c r5 (.c r5 (.c r6 .n)))).drop.drop.drop.fr (.c r1 (.c r0 (.c r3 (.c r0 (.c r0 (.c r0 .n)))))))⟩
 refine cf rfl hd7<|sk<|nx<|sq<|?_
 have hsn:bs.getD rn false=false:=by simpa using hd7
 refine rg<|st (mv rfl)<|st (fa pN rfl)<|st (ld yA rfl (h.c a3 rfl))<|st (ix (j:=rn) Ey AU rfl rfl hrn)<|sf (ZB (enc:=RP) (a:=true) h AU oN Qh rfl rfl rfl hrn (by omega) u5)<|?_
 rintro _ w h
 refine xe<|nx<|sq<|rg<|st (mv rfl)<|st (fa W7 rfl)<|sf (so h rfl rfl rfl pL rfl (.s (.r .d)) u3)<|?_
 rintro _ w h
 refine xe<|nx<|sq<|rg<|st (gJ rfl (dK (h.b a3)) aA6)<|sf (bu [↑(rn:Int),↑m,↑a,↑(lv:Int),.slice pw wl.length cw] h Lk Yf rfl (by kernel_rfl) rfl (by decide) (by decide))<|?_
 rintro _ w ⟨b8,rfl,h⟩
 refine st (sg rfl)<|xe<|nx<|sq<|rg<|st (gJ rfl (dK (h.b a5)) iO)<|st (mv rfl)<|cl (ca eF rfl) ((fK s zs pn pc cn cc m (h.fr (.c r1 (.c r1 (.c r1 .n)))) hzs hr).mono ?_)
 rintro _ w ⟨q9,rfl,h⟩
 refine⟨_,rfl,?_⟩
 refine sf (al h Jq)<|?_
 rintro _ w ⟨b10,rfl,h⟩
 refine sf (so h rfl rfl rfl xP rfl (.r (.r (.r (.r (.r (.r (.r (.r (.r (.r (.r (.r (.r (.r .d)))))))))))))) u0)<|?_
 rintro _ w h
 refine xe<|nx<|sq<|sq<|?_
 obtain⟨pb11,cb12,pp13,cp14⟩:=q9
 have h:=h.fr (.c r1 .n)
 have h:SH B w (bV 1 (.slice pb11 (s.node m).aA.length cb12) (s.node m).aA.length ((s.node m).aA.map (Value.int .i64))::bV 2 (.slice pp13 (s.node m).aF.length cp14) (s.node m).aF.length ((s.node m).aF.flatMap aR)::bl b10 (aL (s.node m) (⟨pb11,cb12,pp13,cp14⟩)) 68::aU 68 14 (.slice pn zs.length cn) zs.length (zs.flatMap cB)::aU 36 1 (.slice pc s.cells.length cc) s.cells.length (s.cells.map (Value.int .i64))::bE zs::aU 89 5 (.slice (some ⟨b8,0,none⟩) 1 1) 1 ([↑(rn:Int),↑m,↑a,↑(lv:Int),.slice pw wl.length cw])::bl b2 ([↑(rn:Int),↑m,↑a,↑(lv:Int),.slice pw wl.length cw]) 89::bl b1 ([.slice pn zs.length cn,.slice pc s.cells.length cc,↑(s.gen:Int)]) 53::aU 4 1 (.slice (some ⟨b6,0,none⟩) bs.length csn) bs.length ((bs.set rn true).flatMap RP)::bV 1 (.slice pw wl.length cw) wl.length (wl.map (Value.int .i64))::L):=SH.se (l:=[aY (s.node m) (⟨pb11,cb12,pp13,cp14⟩),cH (s.node m) (⟨pb11,cb12,pp13,cp14⟩)]) h
 refine rg<|st (fa Bv rfl)<|st (ld jE rfl (h.c a2 rfl))<|xe<|nx<|bk<|sq<|rg<|st (bi rfl rfl rfl)<|st (sg rfl)<|xe<|nx<|?_
 rcases Pe (((s.node m).kind:Int)==5)with hd15|hd15
 have hg16:=eq_of_beq hd15
 refine ct rfl hd15<|sq<|XL (F:=[bl b10 (aL (s.node m) (⟨pb11,cb12,pp13,cp14⟩)) 68]) [1,3,5,7,9,11] 6 7 [14,16,18] [12,16,18] (by kernel_rfl) h (λw h=>(hC (h.at_ a2) hN)) λw h=>tk (λW H=>mv rfl)<|tk (λW H=>fa vC rfl)<|tk (λW H=>ld uK rfl (H.c a0 rfl))<|tk (λW H=>fa Jv rfl)<|tk (λW H=>ld oQ rfl (H.c a0 rfl))<|tk (λW H=>bd [.string (s.node m).key,.int .u64 (((s.node m).value:Nat):Int)] Iu rfl (by kernel_rfl))<|YJ ?_ ?_
 refine ff (bu [.string (s.node m).key,.int .u64 (((s.node m).value:Nat):Int)] h nN oP rfl (by kernel_rfl) rfl (by decide) (by decide))<|?_
 rintro _ w ⟨b17,rfl,h⟩
 refine⟨(hC (h.at_ a3) hN),?_⟩
 refine ef (sg rfl) ((hC (h.at_ a3) hN))<|ef (sg rfl) ((hC (h.at_ a3) hN))<|ef (sg rfl) ((hC (h.at_ a3) hN))<|xz<|nx<|rt<|bt<|tr<|?_
 refine rr (l8 results70 rfl rfl rfl)<|?_
 have h:=SH.Ow (h.fr (.c r0 .n))
 exact⟨true,[(⟨(rn:Int),m,a,(lv:Int),pw,wl.length,cw⟩:JE)],[(⟨(s.node m).key,(s.node m).value⟩:Ct.bN)],bs.set rn true,_,_,_,_,⟨λ_=>⟨_,_,rfl,rfl⟩,(by have:=xO hrn hsn;show 1+_<=_;omega),(by have h1:=xO hrn hsn;have h2:=hpr m;show 1+_<=_;omega),(yM ..)⟩,rfl,((h.fr (.c r1 (.c r1 (.c r1 (.c r5 (.c r5 (.c r6 .n))))))).drop.drop.drop.drop.drop.drop.fr (.c r0 (.c r3 (.c r3 (.c r0 (.c r0 (.c r0 .n)))))))⟩
 refine ef (sg rfl) ((hC (h.at_ a2) hN))<|ff (bu [.string (s.node m).key,.int .u64 (((s.node m).value:Nat):Int)] h nN oP rfl (by kernel_rfl) rfl (by decide) (by decide))<|?_
 rintro _ w ⟨b18,rfl,h⟩
 refine⟨(hC (h.at_ a3) hN),?_⟩
 refine ef (sg rfl) ((hC (h.at_ a3) hN))<|ef (sg rfl) ((hC (h.at_ a3) hN))<|xz<|nx<|rt<|bt<|tr<|?_
 refine rr (l8 results70 rfl rfl rfl)<|?_
 have h:=SH.Ow (h.fr (.c r0 .n))
 exact⟨true,[(⟨(rn:Int),m,a,(lv:Int),pw,wl.length,cw⟩:JE)],[(⟨(s.node m).key,(s.node m).value⟩:Ct.bN)],bs.set rn true,_,_,_,_,⟨λ_=>⟨_,_,rfl,rfl⟩,(by have:=xO hrn hsn;show 1+_<=_;omega),(by have h1:=xO hrn hsn;have h2:=hpr m;show 1+_<=_;omega),(yM ..)⟩,rfl,((h.fr (.c r1 (.c r1 (.c r1 (.c r5 (.c r5 (.c r6 .n))))))).drop.drop.drop.drop.drop.drop.fr (.c r0 (.c r3 (.c r3 (.c r0 (.c r0 (.c r0 .n)))))))⟩
 have hg19:=AD hd15
 refine cf rfl hd15<|sq<|rg<|st (bi rfl rfl rfl)<|st (sg rfl)<|xe<|nx<|?_
 rcases Pe (((s.node m).kind:Int)==6)with hd20|hd20
 have hg21:=eq_of_beq hd20
 refine ct rfl hd20<|sq<|dZ [1,3,5,6,8,10] (by kernel_rfl) h (.c r2 .n) λw h=>tk (λW H=>mv rfl)<|tk (λW H=>fa pK rfl)<|tk (λW H=>ld tC rfl (H.c a0 rfl))<|ef (sg rfl) (h.hs (.c r2 .n))<|ef (sg rfl) (h.hs (.c r2 .n))<|ef (sg rfl) (h.hs (.c r2 .n))<|xz<|nx<|rt<|bt<|tr<|?_
 refine rr (l8 results70 rfl rfl rfl)<|?_
 exact⟨true,[(⟨(rn:Int),m,a,(lv:Int),pw,wl.length,cw⟩:JE)],(s.node m).aF,bs.set rn true,_,_,_,_,⟨λ_=>⟨_,_,rfl,rfl⟩,(by have:=xO hrn hsn;show 1+_<=_;omega),(by have h1:=xO hrn hsn;have h2:=hpr m;skip;omega),(yM ..)⟩,rfl,((h.fr (.c r0 (.c r1 (.c r5 (.c r5 (.c r6 .n)))))).drop.drop.drop.drop.drop.fr (.c r0 (.c r3 (.c r3 (.c r0 (.c r0 (.c r0 .n)))))))⟩
 have hg22:=AD hd20
 refine cf rfl hd20<|sk<|bn<|nx<|sq<|rg<|st (fa tM rfl)<|st (ld oQ rfl (h.c a2 rfl))<|cl (ca eF rfl) ((GI (s.node m).aD (h.fr .n) (hbm m)).mono ?_)
 rintro _ w ⟨pi23,ci24,xs25,hix,rfl,h⟩
 have hk3:(s.node m).kind=3:=by have hz:=hmain;unfold Ct.Node.bM at hz;rw[hd15,hd20]at hz;simpa using hz
 have hbr:=hCn m hk3
 have h64:=Bm.lR 64 (s.node m).aD
 refine⟨_,rfl,?_⟩
 refine st (sg rfl)<|xe<|nx<|sq<|sq<|rg<|st (sg rfl)<|xe<|nx<|bk<|?_
 have h:=SH.nil 168 2 h
 have h:SH B w (aU 168 2 (.slice none ([]:List Ct.bN).length 0) ([]:List Ct.bN).length (([]:List Ct.bN).flatMap aR)::aU 3 1 (.slice pi23 xs25.length ci24) xs25.length (xs25.map (Value.int .i64))::bV 1 (.slice pb11 (s.node m).aA.length cb12) (s.node m).aA.length ((s.node m).aA.map (Value.int .i64))::bV 2 (.slice pp13 (s.node m).aF.length cp14) (s.node m).aF.length ((s.node m).aF.flatMap aR)::bl b10 (aL (s.node m) (⟨pb11,cb12,pp13,cp14⟩)) 68::aU 68 14 (.slice pn zs.length cn) zs.length (zs.flatMap cB)::aU 36 1 (.slice pc s.cells.length cc) s.cells.length (s.cells.map (Value.int .i64))::bE zs::aU 89 5 (.slice (some ⟨b8,0,none⟩) ([(⟨(rn:Int),m,a,(lv:Int),pw,wl.length,cw⟩:JE)]).length 1) ([(⟨(rn:Int),m,a,(lv:Int),pw,wl.length,cw⟩:JE)]).length (([(⟨(rn:Int),m,a,(lv:Int),pw,wl.length,cw⟩:JE)]).flatMap JC)::bl b2 ([↑(rn:Int),↑m,↑a,↑(lv:Int),.slice pw wl.length cw]) 89::bl b1 ([.slice pn zs.length cn,.slice pc s.cells.length cc,↑(s.gen:Int)]) 53::aU 4 1 (.slice (some ⟨b6,0,none⟩) bs.length csn) bs.length ((bs.set rn true).flatMap RP)::bV 1 (.slice pw wl.length cw) wl.length (wl.map (Value.int .i64))::L):=h
 refine lp (α:=Nat×List JE×Option Addr×Nat×List Ct.bN×Option Addr×Nat×List Bool) (λρ=>(.c 2 (.slice (some ⟨b6,0,none⟩) bs.length csn) (.c 3 ↑b1 (.c 4 ↑b2 (.c 6 (.slice ρ.2.2.1 ρ.2.1.length ρ.2.2.2.1) (.c 7 (.slice ρ.2.2.2.2.2.1 ρ.2.2.2.2.1.length ρ.2.2.2.2.2.2.1) (.c 10 ↑b10 (.c 11 (.slice pi23 xs25.length ci24) (.c 12 (.int .i64 (ρ.1:Int)) .n))))))))) (λρ w=>SH B w (aU 168 2 (.slice ρ.2.2.2.2.2.1 ρ.2.2.2.2.1.length ρ.2.2.2.2.2.2.1) ρ.2.2.2.2.1.length (ρ.2.2.2.2.1.flatMap aR)::aU 89 5 (.slice ρ.2.2.1 ρ.2.1.length ρ.2.2.2.1) ρ.2.1.length (ρ.2.1.flatMap JC)::aU 4 1 (.slice (some ⟨b6,0,none⟩) bs.length csn) bs.length (ρ.2.2.2.2.2.2.2.flatMap RP)::aU 3 1 (.slice pi23 xs25.length ci24) xs25.length (xs25.map (Value.int .i64))::bV 1 (.slice pb11 (s.node m).aA.length cb12) (s.node m).aA.length ((s.node m).aA.map (Value.int .i64))::bV 2 (.slice pp13 (s.node m).aF.length cp14) (s.node m).aF.length ((s.node m).aF.flatMap aR)::bl b10 (aL (s.node m) (⟨pb11,cb12,pp13,cp14⟩)) 68::aU 68 14 (.slice pn zs.length cn) zs.length (zs.flatMap cB)::aU 36 1 (.slice pc s.cells.length cc) s.cells.length (s.cells.map (Value.int .i64))::bE zs::bl b2 ([↑(rn:Int),↑m,↑a,↑(lv:Int),.slice pw wl.length cw]) 89::bl b1 ([.slice pn zs.length cn,.slice pc s.cells.length cc,↑(s.gen:Int)]) 53::bV 1 (.slice pw wl.length cw) wl.length (wl.map (Value.int .i64))::L)/\(ρ.1<=(s.node m).aA.length)/\(ρ.2.1.length+FG ρ.2.2.2.2.2.2.2<=FG bs)/\(ρ.2.2.2.2.1.length+1000000*FG ρ.2.2.2.2.2.2.2+1000000<=ρ.1+1000000*FG bs)/\(ρ.2.2.2.2.2.2.2.length=bs.length)/\(∃(x:JE) (l':List JE),ρ.2.1=x::l'/\x.i=(rn:Int))) (λρ=>(s.node m).aA.length -ρ.1) (0,[(⟨(rn:Int),m,a,(lv:Int),pw,wl.length,cw⟩:JE)],some ⟨b8,0,none⟩,1,[],none,0,bs.set rn true) ⟨rfl,rfl,rfl,rfl,rfl,rfl,rfl,rfl,trivial⟩ ⟨(h.fr (.c r0 (.c r7 (.c r9 (.c r0 (.c r0 (.c r0 (.c r0 (.c r0 (.c r0 (.c r0 (.c r0 (.c r0 (.c r0 .n)))))))))))))),(Hg _),(by have:=xO hrn hsn;show 1+FG (bs.set rn true)<=FG bs;omega),(by have:=xO hrn hsn;show 0+1000000*FG (bs.set rn true)+1000000<=0+1000000*FG bs;omega),(yM ..),⟨_,_,rfl,rfl⟩⟩ ?_
 rintro⟨k,ls,pl,cl,ps,pq,cq,bs2⟩ w ⟨h,hk,hl,hpq,hb2,hx⟩
 dsimp only at *
 refine sq<|sq<|rg<|st (mv rfl)<|st (fa iN rfl)<|st (ld kF rfl (h.c a6 rfl))<|st (ln hB rfl rfl)<|st (bi rfl rfl rfl)<|xe<|nx<|?_
 rcases Pe (decide (((k:Int):Int)<(((s.node m).aA.length:Nat):Int)))with hd26|hd26
 have hg27:=bI hd26
 refine ct rfl hd26<|sk<|nx<|sq<|bk<|sq<|?_
 obtain⟨b28,o29,rfl⟩:=h.fq a4 (by omega)
 refine XL (F:=[bl b1 ([.slice pn zs.length cn,.slice pc s.cells.length cc,↑(s.gen:Int)]) 53,bl b10 (aL (s.node m) (⟨some ⟨b28,o29,none⟩,cb12,pp13,cp14⟩)) 68,bV 1 (.slice (some ⟨b28,o29,none⟩) (s.node m).aA.length cb12) (s.node m).aA.length ((s.node m).aA.map (Value.int .i64))]) [1,3,5,7,9,11] 6 7 [14,16] [12,16] (by kernel_rfl) h (λw h=>(hC (h.at_ a11) (hC (h.at_ a6) (hC (h.at_ a4) hN)))) λw h=>tk (λW H=>gJ rfl (dK (H.b a0)) iO)<|tk (λW H=>fa iN rfl)<|tk (λW H=>ld kF rfl (H.c a1 rfl))<|tk (λW H=>mv rfl)<|tk (λW H=>ix (j:=k) hB pL rfl rfl (by omega))<|tk (λW H=>ld yA rfl ((H.rr a2).i (by omega)))<|YJ ?_ ?_
 refine cs (ca eF rfl) ((fK s zs pn pc cn cc ((s.node m).aA.getD k 0) (h.fr (.c r7 (.c r7 (.c r7 .n)))) hzs hr).mono ?_)
 rintro _ w ⟨q30,rfl,h⟩
 refine⟨_,rfl,(hC (h.at_ Y4) (hC (h.at_ ZA) (hC (h.at_ a8) hN))),?_⟩
 refine ff (al h Jq)<|?_
 rintro _ w ⟨b31,rfl,h⟩
 refine⟨(hC (h.at_ N7) (hC (h.at_ a11) (hC (h.at_ a9) hN))),?_⟩
 refine ff (so h rfl rfl rfl xP rfl (.r (.r (.r (.r (.r (.r (.r (.r (.r (.r (.r (.r (.r (.r .d)))))))))))))) u0)<|?_
 rintro _ w h
 refine⟨(hC (h.at_ N7) (hC (h.at_ a11) (hC (h.at_ a9) hN))),?_⟩
 refine xz<|nx<|sq<|sq<|rg<|st (fa Bv rfl)<|st (ld jE rfl (h.c a0 rfl))<|st (bi rfl rfl rfl)<|xe<|nx<|?_
 rcases Pe (((s.node ((s.node m).aA.getD k 0)).kind:Int)==4)with hd32|hd32
 have hg33:=eq_of_beq hd32
 refine ct rfl hd32<|sq<|rg<|st (mv rfl)<|st (fa vC rfl)<|st (ld uK rfl (h.c a0 rfl))<|st (fa Jv rfl)<|st (ld oQ rfl (h.c a0 rfl))<|st (bd [.string (s.node ((s.node m).aA.getD k 0)).key,.int .u64 (((s.node ((s.node m).aA.getD k 0)).value:Nat):Int)] Iu rfl (by kernel_rfl))<|sf (bu [.string (s.node ((s.node m).aA.getD k 0)).key,.int .u64 (((s.node ((s.node m).aA.getD k 0)).value:Nat):Int)] h nN oP rfl (by kernel_rfl) rfl (by decide) (by decide))<|?_
 rintro _ w ⟨b34,rfl,h⟩
 refine sf (ap h nN rfl oP rfl (by decide) rfl rfl (λ_=>u6) (h.ro a0) (by simp[Value.oneCell']) (DB ps (⟨(s.node ((s.node m).aA.getD k 0)).key,(s.node ((s.node m).aA.getD k 0)).value⟩:Ct.bN)) (fW (enc:=aR) ps (⟨(s.node ((s.node m).aA.getD k 0)).key,(s.node ((s.node m).aA.getD k 0)).value⟩:Ct.bN)) (by have h3:=gI bs;unfold maxLen;simp;omega) (by have h3:=gI bs;simp;omega))<|?_
 rintro _ w ⟨p35,c36,rfl,h⟩
 refine st (sg rfl)<|xe<|nx<|xt<|tx<|be<|nx<|rg<|st (mv rfl)<|st (bw rfl rfl (gN (c:=((k+1:Nat):Int)) (by omega) (by omega) (by omega)))<|st (sg rfl)<|xe<|nx<|?_
 exact⟨((k+1),ls,pl,cl,ps++[(⟨(s.node ((s.node m).aA.getD k 0)).key,(s.node ((s.node m).aA.getD k 0)).value⟩:Ct.bN)],p35,c36,bs2),⟨rfl,rfl,rfl,rfl,rfl,rfl,rfl,rfl,trivial⟩,⟨(h.drop.drop.drop.fr (.c r3 (.c r3 (.c r3 (.c r3 (.c r3 (.c r3 (.c r3 (.c r0 (.c r0 (.c r0 (.c r0 (.c r0 (.c r0 .n)))))))))))))),(by(try dsimp only);omega),hl,(by dsimp only;rw[Xb];simp only[Qb,Ab];omega),hb2,hx⟩,by(try dsimp only);omega⟩
 have hg37:=AD hd32
 refine cf rfl hd32<|sk<|nx<|sq<|sq<|rg<|st (fa Bv rfl)<|st (ld jE rfl (h.c a0 rfl))<|st (bi rfl rfl rfl)<|xe<|nx<|?_
 rcases Pe (((s.node ((s.node m).aA.getD k 0)).kind:Int) != 2)with hd38|hd38
 have hg39:=bne_iff_ne.1 hd38
 refine ct rfl hd38<|sq<|rg<|st (sg rfl)<|st (sg rfl)<|st (sg rfl)<|xe<|nx<|rt<|tr<|bt<|tr<|tr<|bt<|tr<|?_
 refine rr (l8 results70 rfl rfl rfl)<|?_
 have h:=SH.nil 89 5 (SH.Ow (SH.nil 168 2 h))
 exact⟨false,[],[],bs2,none,0,none,0,.no (by first|exact bD _|omega|(have:=hq2.RZ;omega)) (by first|rfl|(rw[yM])|omega|(have:=hq2.len;omega)),rfl,((h.fr (.c r2 (.c r2 (.c r5 (.c r5 (.c r6 (.c r6 (.c r6 (.c r6 (.c r6 (.c r6 (.c r6 .n)))))))))))).drop.drop.drop.drop.drop.drop.drop.drop.drop.drop.drop.fr (.c r1 (.c r0 (.c r3 (.c r0 (.c r0 (.c r0 .n)))))))⟩
 have hg40:=eS hd38
 refine cf rfl hd38<|sk<|nx<|sq<|?_
 obtain⟨b41,rfl⟩:=h.fp a8 (by omega)
 refine VS (F:=[bl b2 ([↑(rn:Int),↑m,↑a,↑(lv:Int),.slice pw wl.length cw]) 89,aU 3 1 (.slice (some ⟨b41,0,none⟩) xs25.length ci24) xs25.length (xs25.map (Value.int .i64))]) (.op 1 true (.op 2 true (.op 4 true (.op 5 true (.op 6 true (.op 7 true (.fork 0 8 (.fork 3 8 (.op 8 false (.op 9 false (.op 10 false .stop))) (.op 3 false (.op 9 false (.op 10 false .stop)))) (.op 0 false (.op 3 false (.op 9 false (.op 10 false .stop))))))))))) (by kernel_rfl) h (λw h=>(hC (h.at_ Y4) (hC (h.at_ a8) hN))) λw h=>tk (λW H=>fa WV rfl)<|tk (λW H=>ld AA rfl (H.c a0 rfl))<|tk (λW H=>mv rfl)<|tk (λW H=>mv rfl)<|tk (λW H=>ix (j:=k) Mx Bf rfl rfl (by omega))<|tk (λW H=>ld jE rfl ((H.ro a1).i (by omega)))<|Mg ?_ ?_
 refine ff (bu [] h Mx VZ rfl (by kernel_rfl) rfl (by decide) (by decide))<|?_
 rintro _ w ⟨b42,rfl,h⟩
 refine⟨(hC (h.at_ N7) (hC (h.at_ a9) hN)),?_⟩
 refine Mg ?_ ?_
 refine ff (XN h a15 a0 Mx rfl VZ rfl (by decide) rfl rfl (λ_=>u0) (oZ _) (lC _) (xE _) (by unfold maxLen;omega) (by omega))<|?_
 rintro _ w ⟨p43,c44,rfl,h⟩
 refine⟨(hC (h.at_ N7) (hC (h.at_ a9) hN)),?_⟩
 refine ff (bu [.int .i64 (xs25.getD k 0)] h Mx VZ rfl (by kernel_rfl) rfl (by decide) (by decide))<|?_
 rintro _ w ⟨b45,rfl,h⟩
 refine⟨(hC (h.at_ G0) (hC (h.at_ ZA) hN)),?_⟩
 refine ff (ap h Mx rfl VZ rfl (by decide) rfl rfl (λ_=>u1) (h.ro a0) (by simp[Value.oneCell']) (DB wl (xs25.getD k 0)) (fD _ _) (by unfold maxLen;simp;omega) (by simp;omega))<|?_
 rintro _ w ⟨p46,c47,rfl,h⟩
 refine⟨(hC (h.at_ G0) (hC (h.at_ ZA) hN)),?_⟩
 refine ef (sg rfl) ((hC (h.at_ G0) (hC (h.at_ ZA) hN)))<|WZ rfl<|nx<|sq<|?_
 have h:=SH.Ow (h.fr (.c r1 .n))
 refine dZ [1,3,5,7,9,11,13,15,17,19,21,23,25,27,28,31,33,35,37,38,40,42] (by kernel_rfl) h (.c U' (.c Jh (.c J7 (.c L5 .n)))) λw h=>tk (λW H=>gJ rfl (dK (H.b a0)) iO)<|tk (λW H=>fa iN rfl)<|tk (λW H=>ld kF rfl (H.c a1 rfl))<|tk (λW H=>mv rfl)<|tk (λW H=>ix (j:=k) hB pL rfl rfl (by omega))<|tk (λW H=>ld yA rfl ((H.rr a2).i (by omega)))<|tk (λW H=>fa pN rfl)<|tk (λW H=>ld yA rfl (H.c a3 rfl))<|tk (λW H=>fa Bj rfl)<|tk (λW H=>ld jE rfl (H.c a3 rfl))<|tk (λW H=>bw rfl rfl (gN (c:=((lv+1:Nat):Int)) (by omega) (by omega) (by omega)))<|tk (λW H=>mv rfl)<|tk (λW H=>bd [.int .i64 ((s.node m).aA.getD k 0),.int .i64 0,.int .i64 (rn:Int),.int .i64 ((lv+1:Nat):Int),.slice p46 (wl++[xs25.getD k 0]).length c47] Uh rfl (by kernel_rfl))<|tk (λW H=>mv rfl)<|cs (ca eF rfl) ((hrec (d-1) (by omega) ((s.node m).aA.getD k 0) 0 (rn:Int) (lv+1) (wl++[xs25.getD k 0]) p46 c47 bs2 (some ⟨b6,0,none⟩) csn bs.length _ _ _ (h.fr (.c r4 (.c r4 (.c r4 (.c r6 (.c r0 .n)))))) (by omega) hb2 (by omega) (by rw[Xb];simp only[Qb,Ab];omega)).mono ?_)
 rintro _ w ⟨ok2,ls2,ps2,bs3,pl2,cl2,pp2,cp2,hq2,rfl,h⟩
 have h:=SH.Ow (h.fr (.c r1 .n))
 refine⟨_,rfl,h.hs (.c Vn (.c Vr (.c L5 (.c Jh .n)))),?_⟩
 refine tk (λW H=>mv rfl)<|tk (λW H=>xr rfl rfl)<|tk (λW H=>xr rfl rfl)<|tk (λW H=>xr rfl rfl)<|ef (sg rfl) (h.hs (.c Vn (.c Vr (.c L5 (.c Jh .n)))))<|ef (sg rfl) (h.hs (.c Vn (.c Vr (.c L5 (.c Jh .n)))))<|ef (sg rfl) (h.hs (.c Vn (.c Vr (.c L5 (.c Jh .n)))))<|xz<|nx<|sq<|sq<|rg<|st (mv rfl)<|st (nt rfl)<|xe<|nx<|?_
 rcases Pe (!ok2)with hd48|hd48
 have hd49:ok2=false:=(pJ _).mp hd48
 refine ct rfl hd48<|sq<|rg<|st (sg rfl)<|st (sg rfl)<|st (sg rfl)<|xe<|nx<|rt<|tr<|bt<|tr<|tr<|bt<|tr<|?_
 refine rr (l8 results70 rfl rfl rfl)<|?_
 have h:=SH.nil 89 5 (SH.Ow (SH.nil 168 2 h))
 exact⟨false,[],[],bs3,none,0,none,0,.no (by first|exact bD _|omega|(have:=hq2.RZ;omega)) (by first|rfl|(rw[yM])|omega|(have:=hq2.len;omega)),rfl,((h.fr (.c r2 (.c r2 (.c r6 (.c r6 (.c r6 (.c r6 (.c r6 (.c r6 (.c r6 (.c r6 (.c r6 (.c r6 (.c r6 (.c r6 .n))))))))))))))).drop.drop.drop.drop.drop.drop.drop.drop.drop.drop.drop.drop.drop.drop.fr (.c r1 (.c r0 (.c r0 (.c r0 (.c r0 (.c r0 .n)))))))⟩
 have hd50:ok2=true:=(Co _).mp hd48
 refine cf rfl hd48<|sk<|nx<|rg<|st (mv rfl)<|st (mv rfl)<|sf (XN h a0 ZA Lk rfl Yf rfl (by decide) rfl rfl (λ_=>u10) (lU Aj _) (Xb ..).symm (Ik ..).symm (by have h1:=hq2.RZ;have h3:=gI bs;unfold maxLen;simp;omega) (by have h1:=hq2.RZ;have h3:=gI bs;simp;omega))<|?_
 rintro _ w ⟨p51,c52,rfl,h⟩
 refine st (mv rfl)<|st (mv rfl)<|sf (XN h a1 a9 nN rfl oP rfl (by decide) rfl rfl (λ_=>u9) (lU eU _) (Xb ..).symm (Ik ..).symm (by have h1:=hq2.aF;have h3:=gI bs;unfold maxLen;simp;omega) (by have h1:=hq2.aF;have h3:=gI bs;simp;omega))<|?_
 rintro _ w ⟨p53,c54,rfl,h⟩
 refine st (sg rfl)<|st (sg rfl)<|xe<|bn<|nx<|rg<|st (mv rfl)<|st (bw rfl rfl (gN (c:=((k+1:Nat):Int)) (by omega) (by omega) (by omega)))<|st (sg rfl)<|xe<|nx<|?_
 exact⟨((k+1),ls++ls2,p51,c52,ps++ps2,p53,c54,bs3),⟨rfl,rfl,rfl,rfl,rfl,rfl,rfl,rfl,trivial⟩,⟨((h.fr (.c r0 (.c r0 (.c r4 (.c r4 (.c r4 .n)))))).drop.drop.drop.drop.drop.fr (.c r4 (.c r4 (.c r0 (.c r3 (.c r3 (.c r3 (.c r3 (.c r0 (.c r0 (.c r0 (.c r0 (.c r0 (.c r0 .n)))))))))))))),(by(try dsimp only);omega),(by have h1:=hq2.RZ;dsimp only;rw[Xb];omega),(by have h1:=hq2.aF;dsimp only;rw[Xb];omega),(by have h1:=hq2.len;dsimp only;omega),(by obtain⟨x,l',h1,h2⟩:=hx;rw[h1];exact⟨x,l'++ls2,rfl,h2⟩)⟩,by(try dsimp only);omega⟩
 refine ff (bu [.int .i64 (xs25.getD k 0)] h Mx VZ rfl (by kernel_rfl) rfl (by decide) (by decide))<|?_
 rintro _ w ⟨b55,rfl,h⟩
 refine⟨(hC (h.at_ G0) (hC (h.at_ ZA) hN)),?_⟩
 refine ff (XN h a16 a1 Mx rfl VZ rfl (by decide) rfl rfl (λ_=>u1) (oZ _) (lC _) (xE _) (by unfold maxLen;omega) (by omega))<|?_
 rintro _ w ⟨p56,c57,rfl,h⟩
 refine⟨(hC (h.at_ G0) (hC (h.at_ ZA) hN)),?_⟩
 refine ff (ap h Mx rfl VZ rfl (by decide) rfl rfl (λ_=>u1) (h.ro a0) (by simp[Value.oneCell']) (DB wl (xs25.getD k 0)) (fD _ _) (by unfold maxLen;simp;omega) (by simp;omega))<|?_
 rintro _ w ⟨p58,c59,rfl,h⟩
 refine⟨(hC (h.at_ G0) (hC (h.at_ ZA) hN)),?_⟩
 refine ef (sg rfl) ((hC (h.at_ G0) (hC (h.at_ ZA) hN)))<|WZ rfl<|nx<|sq<|?_
 have h:=SH.Ow (h.fr (.c r1 .n))
 refine dZ [1,3,5,7,9,11,13,15,17,19,21,23,25,27,28,31,33,35,37,38,40,42] (by kernel_rfl) h (.c U' (.c Jh (.c J7 (.c L5 .n)))) λw h=>tk (λW H=>gJ rfl (dK (H.b a0)) iO)<|tk (λW H=>fa iN rfl)<|tk (λW H=>ld kF rfl (H.c a1 rfl))<|tk (λW H=>mv rfl)<|tk (λW H=>ix (j:=k) hB pL rfl rfl (by omega))<|tk (λW H=>ld yA rfl ((H.rr a2).i (by omega)))<|tk (λW H=>fa pN rfl)<|tk (λW H=>ld yA rfl (H.c a3 rfl))<|tk (λW H=>fa Bj rfl)<|tk (λW H=>ld jE rfl (H.c a3 rfl))<|tk (λW H=>bw rfl rfl (gN (c:=((lv+1:Nat):Int)) (by omega) (by omega) (by omega)))<|tk (λW H=>mv rfl)<|tk (λW H=>bd [.int .i64 ((s.node m).aA.getD k 0),.int .i64 0,.int .i64 (rn:Int),.int .i64 ((lv+1:Nat):Int),.slice p58 (wl++[xs25.getD k 0]).length c59] Uh rfl (by kernel_rfl))<|tk (λW H=>mv rfl)<|cs (ca eF rfl) ((hrec (d-1) (by omega) ((s.node m).aA.getD k 0) 0 (rn:Int) (lv+1) (wl++[xs25.getD k 0]) p58 c59 bs2 (some ⟨b6,0,none⟩) csn bs.length _ _ _ (h.fr (.c r4 (.c r4 (.c r4 (.c r6 (.c r0 .n)))))) (by omega) hb2 (by omega) (by rw[Xb];simp only[Qb,Ab];omega)).mono ?_)
 rintro _ w ⟨ok2,ls2,ps2,bs3,pl2,cl2,pp2,cp2,hq2,rfl,h⟩
 have h:=SH.Ow (h.fr (.c r1 .n))
 refine⟨_,rfl,h.hs (.c Vn (.c Vr (.c L5 (.c Jh .n)))),?_⟩
 refine tk (λW H=>mv rfl)<|tk (λW H=>xr rfl rfl)<|tk (λW H=>xr rfl rfl)<|tk (λW H=>xr rfl rfl)<|ef (sg rfl) (h.hs (.c Vn (.c Vr (.c L5 (.c Jh .n)))))<|ef (sg rfl) (h.hs (.c Vn (.c Vr (.c L5 (.c Jh .n)))))<|ef (sg rfl) (h.hs (.c Vn (.c Vr (.c L5 (.c Jh .n)))))<|xz<|nx<|sq<|sq<|rg<|st (mv rfl)<|st (nt rfl)<|xe<|nx<|?_
 rcases Pe (!ok2)with hd60|hd60
 have hd61:ok2=false:=(pJ _).mp hd60
 refine ct rfl hd60<|sq<|rg<|st (sg rfl)<|st (sg rfl)<|st (sg rfl)<|xe<|nx<|rt<|tr<|bt<|tr<|tr<|bt<|tr<|?_
 refine rr (l8 results70 rfl rfl rfl)<|?_
 have h:=SH.nil 89 5 (SH.Ow (SH.nil 168 2 h))
 exact⟨false,[],[],bs3,none,0,none,0,.no (by first|exact bD _|omega|(have:=hq2.RZ;omega)) (by first|rfl|(rw[yM])|omega|(have:=hq2.len;omega)),rfl,((h.fr (.c r2 (.c r2 (.c r6 (.c r6 (.c r6 (.c r6 (.c r6 (.c r6 (.c r6 (.c r6 (.c r6 (.c r6 (.c r6 (.c r6 .n))))))))))))))).drop.drop.drop.drop.drop.drop.drop.drop.drop.drop.drop.drop.drop.drop.fr (.c r1 (.c r0 (.c r0 (.c r0 (.c r0 (.c r0 .n)))))))⟩
 have hd62:ok2=true:=(Co _).mp hd60
 refine cf rfl hd60<|sk<|nx<|rg<|st (mv rfl)<|st (mv rfl)<|sf (XN h a0 ZA Lk rfl Yf rfl (by decide) rfl rfl (λ_=>u10) (lU Aj _) (Xb ..).symm (Ik ..).symm (by have h1:=hq2.RZ;have h3:=gI bs;unfold maxLen;simp;omega) (by have h1:=hq2.RZ;have h3:=gI bs;simp;omega))<|?_
 rintro _ w ⟨p63,c64,rfl,h⟩
 refine st (mv rfl)<|st (mv rfl)<|sf (XN h a1 a9 nN rfl oP rfl (by decide) rfl rfl (λ_=>u9) (lU eU _) (Xb ..).symm (Ik ..).symm (by have h1:=hq2.aF;have h3:=gI bs;unfold maxLen;simp;omega) (by have h1:=hq2.aF;have h3:=gI bs;simp;omega))<|?_
 rintro _ w ⟨p65,c66,rfl,h⟩
 refine st (sg rfl)<|st (sg rfl)<|xe<|bn<|nx<|rg<|st (mv rfl)<|st (bw rfl rfl (gN (c:=((k+1:Nat):Int)) (by omega) (by omega) (by omega)))<|st (sg rfl)<|xe<|nx<|?_
 exact⟨((k+1),ls++ls2,p63,c64,ps++ps2,p65,c66,bs3),⟨rfl,rfl,rfl,rfl,rfl,rfl,rfl,rfl,trivial⟩,⟨((h.fr (.c r0 (.c r0 (.c r4 (.c r4 (.c r4 .n)))))).drop.drop.drop.drop.drop.fr (.c r4 (.c r4 (.c r0 (.c r3 (.c r3 (.c r3 (.c r3 (.c r0 (.c r0 (.c r0 (.c r0 (.c r0 (.c r0 .n)))))))))))))),(by(try dsimp only);omega),(by have h1:=hq2.RZ;dsimp only;rw[Xb];omega),(by have h1:=hq2.aF;dsimp only;rw[Xb];omega),(by have h1:=hq2.len;dsimp only;omega),(by obtain⟨x,l',h1,h2⟩:=hx;rw[h1];exact⟨x,l'++ls2,rfl,h2⟩)⟩,by(try dsimp only);omega⟩
 refine ff (bu [.int .i64 (xs25.getD k 0)] h Mx VZ rfl (by kernel_rfl) rfl (by decide) (by decide))<|?_
 rintro _ w ⟨b67,rfl,h⟩
 refine⟨(hC (h.at_ N7) (hC (h.at_ a9) hN)),?_⟩
 refine ff (bu [] h Mx VZ rfl (by kernel_rfl) rfl (by decide) (by decide))<|?_
 rintro _ w ⟨b68,rfl,h⟩
 refine⟨(hC (h.at_ G0) (hC (h.at_ ZA) hN)),?_⟩
 refine ff (XN h a16 a0 Mx rfl VZ rfl (by decide) rfl rfl (λ_=>u0) (oZ _) (lC _) (xE _) (by unfold maxLen;omega) (by omega))<|?_
 rintro _ w ⟨p69,c70,rfl,h⟩
 refine⟨(hC (h.at_ G0) (hC (h.at_ ZA) hN)),?_⟩
 refine ff (ap h Mx rfl VZ rfl (by decide) rfl rfl (λ_=>u0) (h.ro a1) (by simp[Value.oneCell']) (DB wl (xs25.getD k 0)) (fD _ _) (by unfold maxLen;simp;omega) (by simp;omega))<|?_
 rintro _ w ⟨p71,c72,rfl,h⟩
 refine⟨(hC (h.at_ G0) (hC (h.at_ ZA) hN)),?_⟩
 refine ef (sg rfl) ((hC (h.at_ G0) (hC (h.at_ ZA) hN)))<|WZ rfl<|nx<|sq<|?_
 have h:=SH.Ow (h.fr (.c r0 .n))
 refine dZ [1,3,5,7,9,11,13,15,17,19,21,23,25,27,28,31,33,35,37,38,40,42] (by kernel_rfl) h (.c U' (.c Jh (.c J7 (.c L5 .n)))) λw h=>tk (λW H=>gJ rfl (dK (H.b a0)) iO)<|tk (λW H=>fa iN rfl)<|tk (λW H=>ld kF rfl (H.c a1 rfl))<|tk (λW H=>mv rfl)<|tk (λW H=>ix (j:=k) hB pL rfl rfl (by omega))<|tk (λW H=>ld yA rfl ((H.rr a2).i (by omega)))<|tk (λW H=>fa pN rfl)<|tk (λW H=>ld yA rfl (H.c a3 rfl))<|tk (λW H=>fa Bj rfl)<|tk (λW H=>ld jE rfl (H.c a3 rfl))<|tk (λW H=>bw rfl rfl (gN (c:=((lv+1:Nat):Int)) (by omega) (by omega) (by omega)))<|tk (λW H=>mv rfl)<|tk (λW H=>bd [.int .i64 ((s.node m).aA.getD k 0),.int .i64 0,.int .i64 (rn:Int),.int .i64 ((lv+1:Nat):Int),.slice p71 (wl++[xs25.getD k 0]).length c72] Uh rfl (by kernel_rfl))<|tk (λW H=>mv rfl)<|cs (ca eF rfl) ((hrec (d-1) (by omega) ((s.node m).aA.getD k 0) 0 (rn:Int) (lv+1) (wl++[xs25.getD k 0]) p71 c72 bs2 (some ⟨b6,0,none⟩) csn bs.length _ _ _ (h.fr (.c r4 (.c r4 (.c r4 (.c r6 (.c r0 .n)))))) (by omega) hb2 (by omega) (by rw[Xb];simp only[Qb,Ab];omega)).mono ?_)
 rintro _ w ⟨ok2,ls2,ps2,bs3,pl2,cl2,pp2,cp2,hq2,rfl,h⟩
 have h:=SH.Ow (h.fr (.c r1 .n))
 refine⟨_,rfl,h.hs (.c Vn (.c Vr (.c L5 (.c Jh .n)))),?_⟩
 refine tk (λW H=>mv rfl)<|tk (λW H=>xr rfl rfl)<|tk (λW H=>xr rfl rfl)<|tk (λW H=>xr rfl rfl)<|ef (sg rfl) (h.hs (.c Vn (.c Vr (.c L5 (.c Jh .n)))))<|ef (sg rfl) (h.hs (.c Vn (.c Vr (.c L5 (.c Jh .n)))))<|ef (sg rfl) (h.hs (.c Vn (.c Vr (.c L5 (.c Jh .n)))))<|xz<|nx<|sq<|sq<|rg<|st (mv rfl)<|st (nt rfl)<|xe<|nx<|?_
 rcases Pe (!ok2)with hd73|hd73
 have hd74:ok2=false:=(pJ _).mp hd73
 refine ct rfl hd73<|sq<|rg<|st (sg rfl)<|st (sg rfl)<|st (sg rfl)<|xe<|nx<|rt<|tr<|bt<|tr<|tr<|bt<|tr<|?_
 refine rr (l8 results70 rfl rfl rfl)<|?_
 have h:=SH.nil 89 5 (SH.Ow (SH.nil 168 2 h))
 exact⟨false,[],[],bs3,none,0,none,0,.no (by first|exact bD _|omega|(have:=hq2.RZ;omega)) (by first|rfl|(rw[yM])|omega|(have:=hq2.len;omega)),rfl,((h.fr (.c r2 (.c r2 (.c r6 (.c r6 (.c r6 (.c r6 (.c r6 (.c r6 (.c r6 (.c r6 (.c r6 (.c r6 (.c r6 (.c r6 .n))))))))))))))).drop.drop.drop.drop.drop.drop.drop.drop.drop.drop.drop.drop.drop.drop.fr (.c r1 (.c r0 (.c r0 (.c r0 (.c r0 (.c r0 .n)))))))⟩
 have hd75:ok2=true:=(Co _).mp hd73
 refine cf rfl hd73<|sk<|nx<|rg<|st (mv rfl)<|st (mv rfl)<|sf (XN h a0 ZA Lk rfl Yf rfl (by decide) rfl rfl (λ_=>u10) (lU Aj _) (Xb ..).symm (Ik ..).symm (by have h1:=hq2.RZ;have h3:=gI bs;unfold maxLen;simp;omega) (by have h1:=hq2.RZ;have h3:=gI bs;simp;omega))<|?_
 rintro _ w ⟨p76,c77,rfl,h⟩
 refine st (mv rfl)<|st (mv rfl)<|sf (XN h a1 a9 nN rfl oP rfl (by decide) rfl rfl (λ_=>u9) (lU eU _) (Xb ..).symm (Ik ..).symm (by have h1:=hq2.aF;have h3:=gI bs;unfold maxLen;simp;omega) (by have h1:=hq2.aF;have h3:=gI bs;simp;omega))<|?_
 rintro _ w ⟨p78,c79,rfl,h⟩
 refine st (sg rfl)<|st (sg rfl)<|xe<|bn<|nx<|rg<|st (mv rfl)<|st (bw rfl rfl (gN (c:=((k+1:Nat):Int)) (by omega) (by omega) (by omega)))<|st (sg rfl)<|xe<|nx<|?_
 exact⟨((k+1),ls++ls2,p76,c77,ps++ps2,p78,c79,bs3),⟨rfl,rfl,rfl,rfl,rfl,rfl,rfl,rfl,trivial⟩,⟨((h.fr (.c r0 (.c r0 (.c r4 (.c r4 (.c r4 .n)))))).drop.drop.drop.drop.drop.fr (.c r4 (.c r4 (.c r0 (.c r3 (.c r3 (.c r3 (.c r3 (.c r0 (.c r0 (.c r0 (.c r0 (.c r0 (.c r0 .n)))))))))))))),(by(try dsimp only);omega),(by have h1:=hq2.RZ;dsimp only;rw[Xb];omega),(by have h1:=hq2.aF;dsimp only;rw[Xb];omega),(by have h1:=hq2.len;dsimp only;omega),(by obtain⟨x,l',h1,h2⟩:=hx;rw[h1];exact⟨x,l'++ls2,rfl,h2⟩)⟩,by(try dsimp only);omega⟩
 refine ff (al h Jq)<|?_
 rintro _ w ⟨b80,rfl,h⟩
 refine⟨(hC (h.at_ Y4) (hC (h.at_ a7) (hC (h.at_ a5) hN))),?_⟩
 refine cs (ca eF rfl) ((fK s zs pn pc cn cc ((s.node m).aA.getD k 0) (h.fr (.c r8 (.c r8 (.c r8 .n)))) hzs hr).mono ?_)
 rintro _ w ⟨q81,rfl,h⟩
 refine⟨_,rfl,(hC (h.at_ N7) (hC (h.at_ a11) (hC (h.at_ a9) hN))),?_⟩
 refine ff (so h rfl rfl rfl xP rfl (.r (.r (.r (.r (.r (.r (.r (.r (.r (.r (.r (.r (.r (.r .d)))))))))))))) u4)<|?_
 rintro _ w h
 refine⟨(hC (h.at_ N7) (hC (h.at_ a11) (hC (h.at_ a9) hN))),?_⟩
 refine xz<|nx<|sq<|sq<|rg<|st (fa Bv rfl)<|st (ld jE rfl (h.c a4 rfl))<|st (bi rfl rfl rfl)<|xe<|nx<|?_
 rcases Pe (((s.node ((s.node m).aA.getD k 0)).kind:Int)==4)with hd82|hd82
 have hg83:=eq_of_beq hd82
 refine ct rfl hd82<|sq<|rg<|st (mv rfl)<|st (fa vC rfl)<|st (ld uK rfl (h.c a4 rfl))<|st (fa Jv rfl)<|st (ld oQ rfl (h.c a4 rfl))<|st (bd [.string (s.node ((s.node m).aA.getD k 0)).key,.int .u64 (((s.node ((s.node m).aA.getD k 0)).value:Nat):Int)] Iu rfl (by kernel_rfl))<|sf (bu [.string (s.node ((s.node m).aA.getD k 0)).key,.int .u64 (((s.node ((s.node m).aA.getD k 0)).value:Nat):Int)] h nN oP rfl (by kernel_rfl) rfl (by decide) (by decide))<|?_
 rintro _ w ⟨b84,rfl,h⟩
 refine sf (ap h nN rfl oP rfl (by decide) rfl rfl (λ_=>u6) (h.ro a0) (by simp[Value.oneCell']) (DB ps (⟨(s.node ((s.node m).aA.getD k 0)).key,(s.node ((s.node m).aA.getD k 0)).value⟩:Ct.bN)) (fW (enc:=aR) ps (⟨(s.node ((s.node m).aA.getD k 0)).key,(s.node ((s.node m).aA.getD k 0)).value⟩:Ct.bN)) (by have h3:=gI bs;unfold maxLen;simp;omega) (by have h3:=gI bs;simp;omega))<|?_
 rintro _ w ⟨p85,c86,rfl,h⟩
 refine st (sg rfl)<|xe<|nx<|xt<|tx<|be<|nx<|rg<|st (mv rfl)<|st (bw rfl rfl (gN (c:=((k+1:Nat):Int)) (by omega) (by omega) (by omega)))<|st (sg rfl)<|xe<|nx<|?_
 exact⟨((k+1),ls,pl,cl,ps++[(⟨(s.node ((s.node m).aA.getD k 0)).key,(s.node ((s.node m).aA.getD k 0)).value⟩:Ct.bN)],p85,c86,bs2),⟨rfl,rfl,rfl,rfl,rfl,rfl,rfl,rfl,trivial⟩,⟨((h.fr (.c r0 (.c r0 (.c r3 .n)))).drop.drop.drop.fr (.c r3 (.c r3 (.c r3 (.c r3 (.c r3 (.c r3 (.c r3 (.c r0 (.c r0 (.c r0 (.c r0 (.c r0 (.c r0 .n)))))))))))))),(by(try dsimp only);omega),hl,(by dsimp only;rw[Xb];simp only[Qb,Ab];omega),hb2,hx⟩,by(try dsimp only);omega⟩
 have hg87:=AD hd82
 refine cf rfl hd82<|sk<|nx<|sq<|sq<|rg<|st (fa Bv rfl)<|st (ld jE rfl (h.c a4 rfl))<|st (bi rfl rfl rfl)<|xe<|nx<|?_
 rcases Pe (((s.node ((s.node m).aA.getD k 0)).kind:Int) != 2)with hd88|hd88
 have hg89:=bne_iff_ne.1 hd88
 refine ct rfl hd88<|sq<|rg<|st (sg rfl)<|st (sg rfl)<|st (sg rfl)<|xe<|nx<|rt<|tr<|bt<|tr<|tr<|bt<|tr<|?_
 refine rr (l8 results70 rfl rfl rfl)<|?_
 have h:=SH.nil 89 5 (SH.Ow (SH.nil 168 2 h))
 exact⟨false,[],[],bs2,none,0,none,0,.no (by first|exact bD _|omega|(have:=hq2.RZ;omega)) (by first|rfl|(rw[yM])|omega|(have:=hq2.len;omega)),rfl,((h.fr (.c r2 (.c r5 (.c r5 (.c r5 (.c r6 (.c r6 (.c r6 (.c r6 (.c r6 (.c r6 (.c r6 .n)))))))))))).drop.drop.drop.drop.drop.drop.drop.drop.drop.drop.drop.fr (.c r1 (.c r0 (.c r3 (.c r0 (.c r0 (.c r0 .n)))))))⟩
 have hg90:=eS hd88
 refine cf rfl hd88<|sk<|nx<|sq<|?_
 obtain⟨b91,rfl⟩:=h.fp a8 (by omega)
 refine VS (F:=[bl b2 ([↑(rn:Int),↑m,↑a,↑(lv:Int),.slice pw wl.length cw]) 89,aU 3 1 (.slice (some ⟨b91,0,none⟩) xs25.length ci24) xs25.length (xs25.map (Value.int .i64))]) (.op 1 true (.op 2 true (.op 4 true (.op 5 true (.op 6 true (.op 7 true (.fork 0 8 (.fork 3 8 (.op 8 false (.op 9 false (.op 10 false .stop))) (.op 3 false (.op 9 false (.op 10 false .stop)))) (.op 0 false (.op 3 false (.op 9 false (.op 10 false .stop))))))))))) (by kernel_rfl) h (λw h=>(hC (h.at_ Y4) (hC (h.at_ a8) hN))) λw h=>tk (λW H=>fa WV rfl)<|tk (λW H=>ld AA rfl (H.c a0 rfl))<|tk (λW H=>mv rfl)<|tk (λW H=>mv rfl)<|tk (λW H=>ix (j:=k) Mx Bf rfl rfl (by omega))<|tk (λW H=>ld jE rfl ((H.ro a1).i (by omega)))<|Mg ?_ ?_
 refine ff (bu [] h Mx VZ rfl (by kernel_rfl) rfl (by decide) (by decide))<|?_
 rintro _ w ⟨b92,rfl,h⟩
 refine⟨(hC (h.at_ N7) (hC (h.at_ a9) hN)),?_⟩
 refine Mg ?_ ?_
 refine ff (XN h a15 a0 Mx rfl VZ rfl (by decide) rfl rfl (λ_=>u0) (oZ _) (lC _) (xE _) (by unfold maxLen;omega) (by omega))<|?_
 rintro _ w ⟨p93,c94,rfl,h⟩
 refine⟨(hC (h.at_ N7) (hC (h.at_ a9) hN)),?_⟩
 refine ff (bu [.int .i64 (xs25.getD k 0)] h Mx VZ rfl (by kernel_rfl) rfl (by decide) (by decide))<|?_
 rintro _ w ⟨b95,rfl,h⟩
 refine⟨(hC (h.at_ G0) (hC (h.at_ ZA) hN)),?_⟩
 refine ff (ap h Mx rfl VZ rfl (by decide) rfl rfl (λ_=>u1) (h.ro a0) (by simp[Value.oneCell']) (DB wl (xs25.getD k 0)) (fD _ _) (by unfold maxLen;simp;omega) (by simp;omega))<|?_
 rintro _ w ⟨p96,c97,rfl,h⟩
 refine⟨(hC (h.at_ G0) (hC (h.at_ ZA) hN)),?_⟩
 refine ef (sg rfl) ((hC (h.at_ G0) (hC (h.at_ ZA) hN)))<|WZ rfl<|nx<|sq<|?_
 have h:=SH.Ow (h.fr (.c r1 .n))
 refine dZ [1,3,5,7,9,11,13,15,17,19,21,23,25,27,28,31,33,35,37,38,40,42] (by kernel_rfl) h (.c U' (.c Jh (.c J7 (.c L5 .n)))) λw h=>tk (λW H=>gJ rfl (dK (H.b a0)) iO)<|tk (λW H=>fa iN rfl)<|tk (λW H=>ld kF rfl (H.c a1 rfl))<|tk (λW H=>mv rfl)<|tk (λW H=>ix (j:=k) hB pL rfl rfl (by omega))<|tk (λW H=>ld yA rfl ((H.rr a2).i (by omega)))<|tk (λW H=>fa pN rfl)<|tk (λW H=>ld yA rfl (H.c a3 rfl))<|tk (λW H=>fa Bj rfl)<|tk (λW H=>ld jE rfl (H.c a3 rfl))<|tk (λW H=>bw rfl rfl (gN (c:=((lv+1:Nat):Int)) (by omega) (by omega) (by omega)))<|tk (λW H=>mv rfl)<|tk (λW H=>bd [.int .i64 ((s.node m).aA.getD k 0),.int .i64 0,.int .i64 (rn:Int),.int .i64 ((lv+1:Nat):Int),.slice p96 (wl++[xs25.getD k 0]).length c97] Uh rfl (by kernel_rfl))<|tk (λW H=>mv rfl)<|cs (ca eF rfl) ((hrec (d-1) (by omega) ((s.node m).aA.getD k 0) 0 (rn:Int) (lv+1) (wl++[xs25.getD k 0]) p96 c97 bs2 (some ⟨b6,0,none⟩) csn bs.length _ _ _ (h.fr (.c r3 (.c r3 (.c r3 (.c r6 (.c r0 .n)))))) (by omega) hb2 (by omega) (by rw[Xb];simp only[Qb,Ab];omega)).mono ?_)
 rintro _ w ⟨ok2,ls2,ps2,bs3,pl2,cl2,pp2,cp2,hq2,rfl,h⟩
 have h:=SH.Ow (h.fr (.c r1 .n))
 refine⟨_,rfl,h.hs (.c Vn (.c Vr (.c L5 (.c Jh .n)))),?_⟩
 refine tk (λW H=>mv rfl)<|tk (λW H=>xr rfl rfl)<|tk (λW H=>xr rfl rfl)<|tk (λW H=>xr rfl rfl)<|ef (sg rfl) (h.hs (.c Vn (.c Vr (.c L5 (.c Jh .n)))))<|ef (sg rfl) (h.hs (.c Vn (.c Vr (.c L5 (.c Jh .n)))))<|ef (sg rfl) (h.hs (.c Vn (.c Vr (.c L5 (.c Jh .n)))))<|xz<|nx<|sq<|sq<|rg<|st (mv rfl)<|st (nt rfl)<|xe<|nx<|?_
 rcases Pe (!ok2)with hd98|hd98
 have hd99:ok2=false:=(pJ _).mp hd98
 refine ct rfl hd98<|sq<|rg<|st (sg rfl)<|st (sg rfl)<|st (sg rfl)<|xe<|nx<|rt<|tr<|bt<|tr<|tr<|bt<|tr<|?_
 refine rr (l8 results70 rfl rfl rfl)<|?_
 have h:=SH.nil 89 5 (SH.Ow (SH.nil 168 2 h))
 exact⟨false,[],[],bs3,none,0,none,0,.no (by first|exact bD _|omega|(have:=hq2.RZ;omega)) (by first|rfl|(rw[yM])|omega|(have:=hq2.len;omega)),rfl,((h.fr (.c r2 (.c r2 (.c r6 (.c r6 (.c r6 (.c r6 (.c r6 (.c r6 (.c r6 (.c r6 (.c r6 (.c r6 (.c r6 (.c r6 .n))))))))))))))).drop.drop.drop.drop.drop.drop.drop.drop.drop.drop.drop.drop.drop.drop.fr (.c r1 (.c r0 (.c r0 (.c r0 (.c r0 (.c r0 .n)))))))⟩
 have hd100:ok2=true:=(Co _).mp hd98
 refine cf rfl hd98<|sk<|nx<|rg<|st (mv rfl)<|st (mv rfl)<|sf (XN h a0 ZA Lk rfl Yf rfl (by decide) rfl rfl (λ_=>u10) (lU Aj _) (Xb ..).symm (Ik ..).symm (by have h1:=hq2.RZ;have h3:=gI bs;unfold maxLen;simp;omega) (by have h1:=hq2.RZ;have h3:=gI bs;simp;omega))<|?_
 rintro _ w ⟨p101,c102,rfl,h⟩
 refine st (mv rfl)<|st (mv rfl)<|sf (XN h a1 a9 nN rfl oP rfl (by decide) rfl rfl (λ_=>u9) (lU eU _) (Xb ..).symm (Ik ..).symm (by have h1:=hq2.aF;have h3:=gI bs;unfold maxLen;simp;omega) (by have h1:=hq2.aF;have h3:=gI bs;simp;omega))<|?_
 rintro _ w ⟨p103,c104,rfl,h⟩
 refine st (sg rfl)<|st (sg rfl)<|xe<|bn<|nx<|rg<|st (mv rfl)<|st (bw rfl rfl (gN (c:=((k+1:Nat):Int)) (by omega) (by omega) (by omega)))<|st (sg rfl)<|xe<|nx<|?_
 exact⟨((k+1),ls++ls2,p101,c102,ps++ps2,p103,c104,bs3),⟨rfl,rfl,rfl,rfl,rfl,rfl,rfl,rfl,trivial⟩,⟨((h.fr (.c r0 (.c r0 (.c r4 (.c r4 (.c r4 .n)))))).drop.drop.drop.drop.drop.fr (.c r4 (.c r4 (.c r0 (.c r3 (.c r3 (.c r3 (.c r3 (.c r0 (.c r0 (.c r0 (.c r0 (.c r0 (.c r0 .n)))))))))))))),(by(try dsimp only);omega),(by have h1:=hq2.RZ;dsimp only;rw[Xb];omega),(by have h1:=hq2.aF;dsimp only;rw[Xb];omega),(by have h1:=hq2.len;dsimp only;omega),(by obtain⟨x,l',h1,h2⟩:=hx;rw[h1];exact⟨x,l'++ls2,rfl,h2⟩)⟩,by(try dsimp only);omega⟩
 refine ff (bu [.int .i64 (xs25.getD k 0)] h Mx VZ rfl (by kernel_rfl) rfl (by decide) (by decide))<|?_
 rintro _ w ⟨b105,rfl,h⟩
 refine⟨(hC (h.at_ G0) (hC (h.at_ ZA) hN)),?_⟩
 refine ff (XN h a16 a1 Mx rfl VZ rfl (by decide) rfl rfl (λ_=>u1) (oZ _) (lC _) (xE _) (by unfold maxLen;omega) (by omega))<|?_
 rintro _ w ⟨p106,c107,rfl,h⟩
 refine⟨(hC (h.at_ G0) (hC (h.at_ ZA) hN)),?_⟩
 refine ff (ap h Mx rfl VZ rfl (by decide) rfl rfl (λ_=>u1) (h.ro a0) (by simp[Value.oneCell']) (DB wl (xs25.getD k 0)) (fD _ _) (by unfold maxLen;simp;omega) (by simp;omega))<|?_
 rintro _ w ⟨p108,c109,rfl,h⟩
 refine⟨(hC (h.at_ G0) (hC (h.at_ ZA) hN)),?_⟩
 refine ef (sg rfl) ((hC (h.at_ G0) (hC (h.at_ ZA) hN)))<|WZ rfl<|nx<|sq<|?_
 have h:=SH.Ow (h.fr (.c r1 .n))
 refine dZ [1,3,5,7,9,11,13,15,17,19,21,23,25,27,28,31,33,35,37,38,40,42] (by kernel_rfl) h (.c U' (.c Jh (.c J7 (.c L5 .n)))) λw h=>tk (λW H=>gJ rfl (dK (H.b a0)) iO)<|tk (λW H=>fa iN rfl)<|tk (λW H=>ld kF rfl (H.c a1 rfl))<|tk (λW H=>mv rfl)<|tk (λW H=>ix (j:=k) hB pL rfl rfl (by omega))<|tk (λW H=>ld yA rfl ((H.rr a2).i (by omega)))<|tk (λW H=>fa pN rfl)<|tk (λW H=>ld yA rfl (H.c a3 rfl))<|tk (λW H=>fa Bj rfl)<|tk (λW H=>ld jE rfl (H.c a3 rfl))<|tk (λW H=>bw rfl rfl (gN (c:=((lv+1:Nat):Int)) (by omega) (by omega) (by omega)))<|tk (λW H=>mv rfl)<|tk (λW H=>bd [.int .i64 ((s.node m).aA.getD k 0),.int .i64 0,.int .i64 (rn:Int),.int .i64 ((lv+1:Nat):Int),.slice p108 (wl++[xs25.getD k 0]).length c109] Uh rfl (by kernel_rfl))<|tk (λW H=>mv rfl)<|cs (ca eF rfl) ((hrec (d-1) (by omega) ((s.node m).aA.getD k 0) 0 (rn:Int) (lv+1) (wl++[xs25.getD k 0]) p108 c109 bs2 (some ⟨b6,0,none⟩) csn bs.length _ _ _ (h.fr (.c r3 (.c r3 (.c r3 (.c r6 (.c r0 .n)))))) (by omega) hb2 (by omega) (by rw[Xb];simp only[Qb,Ab];omega)).mono ?_)
 rintro _ w ⟨ok2,ls2,ps2,bs3,pl2,cl2,pp2,cp2,hq2,rfl,h⟩
 have h:=SH.Ow (h.fr (.c r1 .n))
 refine⟨_,rfl,h.hs (.c Vn (.c Vr (.c L5 (.c Jh .n)))),?_⟩
 refine tk (λW H=>mv rfl)<|tk (λW H=>xr rfl rfl)<|tk (λW H=>xr rfl rfl)<|tk (λW H=>xr rfl rfl)<|ef (sg rfl) (h.hs (.c Vn (.c Vr (.c L5 (.c Jh .n)))))<|ef (sg rfl) (h.hs (.c Vn (.c Vr (.c L5 (.c Jh .n)))))<|ef (sg rfl) (h.hs (.c Vn (.c Vr (.c L5 (.c Jh .n)))))<|xz<|nx<|sq<|sq<|rg<|st (mv rfl)<|st (nt rfl)<|xe<|nx<|?_
 rcases Pe (!ok2)with hd110|hd110
 have hd111:ok2=false:=(pJ _).mp hd110
 refine ct rfl hd110<|sq<|rg<|st (sg rfl)<|st (sg rfl)<|st (sg rfl)<|xe<|nx<|rt<|tr<|bt<|tr<|tr<|bt<|tr<|?_
 refine rr (l8 results70 rfl rfl rfl)<|?_
 have h:=SH.nil 89 5 (SH.Ow (SH.nil 168 2 h))
 exact⟨false,[],[],bs3,none,0,none,0,.no (by first|exact bD _|omega|(have:=hq2.RZ;omega)) (by first|rfl|(rw[yM])|omega|(have:=hq2.len;omega)),rfl,((h.fr (.c r2 (.c r2 (.c r6 (.c r6 (.c r6 (.c r6 (.c r6 (.c r6 (.c r6 (.c r6 (.c r6 (.c r6 (.c r6 (.c r6 .n))))))))))))))).drop.drop.drop.drop.drop.drop.drop.drop.drop.drop.drop.drop.drop.drop.fr (.c r1 (.c r0 (.c r0 (.c r0 (.c r0 (.c r0 .n)))))))⟩
 have hd112:ok2=true:=(Co _).mp hd110
 refine cf rfl hd110<|sk<|nx<|rg<|st (mv rfl)<|st (mv rfl)<|sf (XN h a0 ZA Lk rfl Yf rfl (by decide) rfl rfl (λ_=>u10) (lU Aj _) (Xb ..).symm (Ik ..).symm (by have h1:=hq2.RZ;have h3:=gI bs;unfold maxLen;simp;omega) (by have h1:=hq2.RZ;have h3:=gI bs;simp;omega))<|?_
 rintro _ w ⟨p113,c114,rfl,h⟩
 refine st (mv rfl)<|st (mv rfl)<|sf (XN h a1 a9 nN rfl oP rfl (by decide) rfl rfl (λ_=>u9) (lU eU _) (Xb ..).symm (Ik ..).symm (by have h1:=hq2.aF;have h3:=gI bs;unfold maxLen;simp;omega) (by have h1:=hq2.aF;have h3:=gI bs;simp;omega))<|?_
 rintro _ w ⟨p115,c116,rfl,h⟩
 refine st (sg rfl)<|st (sg rfl)<|xe<|bn<|nx<|rg<|st (mv rfl)<|st (bw rfl rfl (gN (c:=((k+1:Nat):Int)) (by omega) (by omega) (by omega)))<|st (sg rfl)<|xe<|nx<|?_
 exact⟨((k+1),ls++ls2,p113,c114,ps++ps2,p115,c116,bs3),⟨rfl,rfl,rfl,rfl,rfl,rfl,rfl,rfl,trivial⟩,⟨((h.fr (.c r0 (.c r0 (.c r4 (.c r4 (.c r4 .n)))))).drop.drop.drop.drop.drop.fr (.c r4 (.c r4 (.c r0 (.c r3 (.c r3 (.c r3 (.c r3 (.c r0 (.c r0 (.c r0 (.c r0 (.c r0 (.c r0 .n)))))))))))))),(by(try dsimp only);omega),(by have h1:=hq2.RZ;dsimp only;rw[Xb];omega),(by have h1:=hq2.aF;dsimp only;rw[Xb];omega),(by have h1:=hq2.len;dsimp only;omega),(by obtain⟨x,l',h1,h2⟩:=hx;rw[h1];exact⟨x,l'++ls2,rfl,h2⟩)⟩,by(try dsimp only);omega⟩
 refine ff (bu [.int .i64 (xs25.getD k 0)] h Mx VZ rfl (by kernel_rfl) rfl (by decide) (by decide))<|?_
 rintro _ w ⟨b117,rfl,h⟩
 refine⟨(hC (h.at_ N7) (hC (h.at_ a9) hN)),?_⟩
 refine ff (bu [] h Mx VZ rfl (by kernel_rfl) rfl (by decide) (by decide))<|?_
 rintro _ w ⟨b118,rfl,h⟩
 refine⟨(hC (h.at_ G0) (hC (h.at_ ZA) hN)),?_⟩
 refine ff (XN h a16 a0 Mx rfl VZ rfl (by decide) rfl rfl (λ_=>u0) (oZ _) (lC _) (xE _) (by unfold maxLen;omega) (by omega))<|?_
 rintro _ w ⟨p119,c120,rfl,h⟩
 refine⟨(hC (h.at_ G0) (hC (h.at_ ZA) hN)),?_⟩
 refine ff (ap h Mx rfl VZ rfl (by decide) rfl rfl (λ_=>u0) (h.ro a1) (by simp[Value.oneCell']) (DB wl (xs25.getD k 0)) (fD _ _) (by unfold maxLen;simp;omega) (by simp;omega))<|?_
 rintro _ w ⟨p121,c122,rfl,h⟩
 refine⟨(hC (h.at_ G0) (hC (h.at_ ZA) hN)),?_⟩
 refine ef (sg rfl) ((hC (h.at_ G0) (hC (h.at_ ZA) hN)))<|WZ rfl<|nx<|sq<|?_
 have h:=SH.Ow (h.fr (.c r0 .n))
 refine dZ [1,3,5,7,9,11,13,15,17,19,21,23,25,27,28,31,33,35,37,38,40,42] (by kernel_rfl) h (.c U' (.c Jh (.c J7 (.c L5 .n)))) λw h=>tk (λW H=>gJ rfl (dK (H.b a0)) iO)<|tk (λW H=>fa iN rfl)<|tk (λW H=>ld kF rfl (H.c a1 rfl))<|tk (λW H=>mv rfl)<|tk (λW H=>ix (j:=k) hB pL rfl rfl (by omega))<|tk (λW H=>ld yA rfl ((H.rr a2).i (by omega)))<|tk (λW H=>fa pN rfl)<|tk (λW H=>ld yA rfl (H.c a3 rfl))<|tk (λW H=>fa Bj rfl)<|tk (λW H=>ld jE rfl (H.c a3 rfl))<|tk (λW H=>bw rfl rfl (gN (c:=((lv+1:Nat):Int)) (by omega) (by omega) (by omega)))<|tk (λW H=>mv rfl)<|tk (λW H=>bd [.int .i64 ((s.node m).aA.getD k 0),.int .i64 0,.int .i64 (rn:Int),.int .i64 ((lv+1:Nat):Int),.slice p121 (wl++[xs25.getD k 0]).length c122] Uh rfl (by kernel_rfl))<|tk (λW H=>mv rfl)<|cs (ca eF rfl) ((hrec (d-1) (by omega) ((s.node m).aA.getD k 0) 0 (rn:Int) (lv+1) (wl++[xs25.getD k 0]) p121 c122 bs2 (some ⟨b6,0,none⟩) csn bs.length _ _ _ (h.fr (.c r3 (.c r3 (.c r3 (.c r6 (.c r0 .n)))))) (by omega) hb2 (by omega) (by rw[Xb];simp only[Qb,Ab];omega)).mono ?_)
 rintro _ w ⟨ok2,ls2,ps2,bs3,pl2,cl2,pp2,cp2,hq2,rfl,h⟩
 have h:=SH.Ow (h.fr (.c r1 .n))
 refine⟨_,rfl,h.hs (.c Vn (.c Vr (.c L5 (.c Jh .n)))),?_⟩
 refine tk (λW H=>mv rfl)<|tk (λW H=>xr rfl rfl)<|tk (λW H=>xr rfl rfl)<|tk (λW H=>xr rfl rfl)<|ef (sg rfl) (h.hs (.c Vn (.c Vr (.c L5 (.c Jh .n)))))<|ef (sg rfl) (h.hs (.c Vn (.c Vr (.c L5 (.c Jh .n)))))<|ef (sg rfl) (h.hs (.c Vn (.c Vr (.c L5 (.c Jh .n)))))<|xz<|nx<|sq<|sq<|rg<|st (mv rfl)<|st (nt rfl)<|xe<|nx<|?_
 rcases Pe (!ok2)with hd123|hd123
 have hd124:ok2=false:=(pJ _).mp hd123
 refine ct rfl hd123<|sq<|rg<|st (sg rfl)<|st (sg rfl)<|st (sg rfl)<|xe<|nx<|rt<|tr<|bt<|tr<|tr<|bt<|tr<|?_
 refine rr (l8 results70 rfl rfl rfl)<|?_
 have h:=SH.nil 89 5 (SH.Ow (SH.nil 168 2 h))
 exact⟨false,[],[],bs3,none,0,none,0,.no (by first|exact bD _|omega|(have:=hq2.RZ;omega)) (by first|rfl|(rw[yM])|omega|(have:=hq2.len;omega)),rfl,((h.fr (.c r2 (.c r2 (.c r6 (.c r6 (.c r6 (.c r6 (.c r6 (.c r6 (.c r6 (.c r6 (.c r6 (.c r6 (.c r6 (.c r6 .n))))))))))))))).drop.drop.drop.drop.drop.drop.drop.drop.drop.drop.drop.drop.drop.drop.fr (.c r1 (.c r0 (.c r0 (.c r0 (.c r0 (.c r0 .n)))))))⟩
 have hd125:ok2=true:=(Co _).mp hd123
 refine cf rfl hd123<|sk<|nx<|rg<|st (mv rfl)<|st (mv rfl)<|sf (XN h a0 ZA Lk rfl Yf rfl (by decide) rfl rfl (λ_=>u10) (lU Aj _) (Xb ..).symm (Ik ..).symm (by have h1:=hq2.RZ;have h3:=gI bs;unfold maxLen;simp;omega) (by have h1:=hq2.RZ;have h3:=gI bs;simp;omega))<|?_
 rintro _ w ⟨p126,c127,rfl,h⟩
 refine st (mv rfl)<|st (mv rfl)<|sf (XN h a1 a9 nN rfl oP rfl (by decide) rfl rfl (λ_=>u9) (lU eU _) (Xb ..).symm (Ik ..).symm (by have h1:=hq2.aF;have h3:=gI bs;unfold maxLen;simp;omega) (by have h1:=hq2.aF;have h3:=gI bs;simp;omega))<|?_
 rintro _ w ⟨p128,c129,rfl,h⟩
 refine st (sg rfl)<|st (sg rfl)<|xe<|bn<|nx<|rg<|st (mv rfl)<|st (bw rfl rfl (gN (c:=((k+1:Nat):Int)) (by omega) (by omega) (by omega)))<|st (sg rfl)<|xe<|nx<|?_
 exact⟨((k+1),ls++ls2,p126,c127,ps++ps2,p128,c129,bs3),⟨rfl,rfl,rfl,rfl,rfl,rfl,rfl,rfl,trivial⟩,⟨((h.fr (.c r0 (.c r0 (.c r4 (.c r4 (.c r4 .n)))))).drop.drop.drop.drop.drop.fr (.c r4 (.c r4 (.c r0 (.c r3 (.c r3 (.c r3 (.c r3 (.c r0 (.c r0 (.c r0 (.c r0 (.c r0 (.c r0 .n)))))))))))))),(by(try dsimp only);omega),(by have h1:=hq2.RZ;dsimp only;rw[Xb];omega),(by have h1:=hq2.aF;dsimp only;rw[Xb];omega),(by have h1:=hq2.len;dsimp only;omega),(by obtain⟨x,l',h1,h2⟩:=hx;rw[h1];exact⟨x,l'++ls2,rfl,h2⟩)⟩,by(try dsimp only);omega⟩
 have hg130:=mD hd26
 refine cf rfl hd26<|xt<|tx<|tx<|be<|nx<|sq<|rg<|st (mv rfl)<|st (mv rfl)<|st (sg rfl)<|st (sg rfl)<|st (sg rfl)<|xe<|nx<|rt<|?_
 refine rr (l8 results70 rfl rfl rfl)<|?_
 have h:=SH.Ow (h.fr (.c r0 .n))
 exact⟨true,ls,ps,bs2,_,_,_,_,⟨λ_=>hx,hl,(by have h1:=hpq;omega),hb2⟩,rfl,(h.fr (.c r3 (.c r3 (.c r3 (.c r3 (.c r6 (.c r6 (.c r6 .n)))))))).drop.drop.drop.drop.drop.drop.drop⟩
theorem JI(s:Ct.St)(zs:List (Ct.Node×Lq))(pn pc:Option Addr)(cn cc:Nat)(hzs:zs.map Prod.fst=aW s)(hr:s.size<=100000000000)(hCn:∀r,(s.node r).kind=3->(s.node r).aA.length=Bm.pop 64 (s.node r).aD)(hbm:∀r,(s.node r).aD<18446744073709551616)(hpr:∀r,(s.node r).aF.length<=1000000)(hZ:zs.length<=999999):∀d,OL s zs pn pc cn cc d:=by
 intro d
 induction d using Nat.strongRecOn with
 |ind d hrec=>
  intro i m0 a lv wl pw cw bs psn csn nb B w L h hld hnb hbs hwl
  subst hnb
  cases hb2:(Ct.jM s i).2 with
  |false=>exact RO s zs pn pc cn cc i m0 a lv wl pw cw bs psn csn h hzs hr (by rw[<- hb2])
  |true=>
   obtain⟨hk,hmain⟩:=Ct.R7 hb2
   obtain⟨rn,rfl⟩:∃rn:Nat,i=(rn:Int):=⟨i.toNat,by
    rcases Int.lt_or_le i 1 with h1|h1
    ·rw[wV s i (by omega)]at hk;exact absurd hk (by decide)
    ·omega⟩
   have hz2:=iC hzs
   have hrn:rn<bs.length:=by
    rcases mI rn bs.length with h1|h1
    ·exact h1
    ·rw[wV s _ (by omega)]at hk;exact absurd hk (by decide)
   exact LG s zs pn pc cn cc d rn (Ct.jM s (rn:Int)).1 m0 a lv wl pw cw bs psn csn h hzs hr hCn hbm hpr hZ (by rw[<- hb2]) hmain hrn hld hbs hwl hrec
theorem PC(s:Ct.St)(zs:List (Ct.Node×Lq))(pn pc:Option Addr)(cn cc:Nat)(t:Ct.bC)(h:SH B w (aU 68 14 (.slice pn zs.length cn) zs.length (zs.flatMap cB)::aU 36 1 (.slice pc s.cells.length cc) s.cells.length (s.cells.map (Value.int .i64))::bE zs::L))(hzs:zs.map Prod.fst=aW s)(hr:s.size<=100000000000)(hp:Ct.iV s)(hf:∀n∈aW s,n.aA.length<=1000000/\n.aF.length<=200000000000/\n.aD<18446744073709551616)(hCn:∀r,(s.node r).kind=3->(s.node r).aA.length=Bm.pop 64 (s.node r).aD)(hbm:∀r,(s.node r).aD<18446744073709551616)(hpr:∀r,(s.node r).aF.length<=1000000)(hZ:zs.length<=999999):
  Calls prog 33 #[.agg [.slice pn zs.length cn,.slice pc s.cells.length cc,↑(s.gen:Int)].toArray,.agg [↑t.root,↑t.readOnly].toArray] w λe w'=>∃(ok:Bool) (ls:List JE) (ps:List Ct.bN) (pl:Option Addr) (cl:Nat) (pp:Option Addr) (cp:Nat),((ok=true->(Ct.rootOf s t).2=true/\∃x l',ls=x::l'/\x.i=(Ct.rootOf s t).1)/\ls.length<=1000000)/\e=.returned (.tuple #[.slice pl ls.length cl,.slice pp ps.length cp,↑ok])/\SH B w' (bV 2 (.slice pp ps.length cp) ps.length (ps.flatMap aR)::aU 89 5 (.slice pl ls.length cl) ls.length (ls.flatMap JC)::aU 68 14 (.slice pn zs.length cn) zs.length (zs.flatMap cB)::aU 36 1 (.slice pc s.cells.length cc) s.cells.length (s.cells.map (Value.int .i64))::bE zs::L):=by
 have hz2:=iC hzs
 have hrm:s.aG.length+s.cells.length+s.gen+s.acc<=100000000000:=hr
 refine Ea (args:=[_,_]) func33 rfl ntmps33 rfl ?_
 refine sq<|rg<|sf (bx h rfl rfl)<|?_
 rintro _ w ⟨b1,rfl,h⟩
 refine sf (bx h rfl rfl)<|?_
 rintro _ w ⟨b2,rfl,h⟩
 refine st (sg rfl)<|st (sg rfl)<|st (sg rfl)<|xe<|nx<|sq<|rg<|st (gJ rfl (dK (h.b a1)) iO)<|st (gJ rfl (dK (h.b a0)) oG)<|cl (ca eF rfl) ((JJ s zs pn pc cn cc t (h.fr (.c r2 (.c r2 (.c r2 .n)))) hzs hr hp hf).mono ?_)
 rintro _ w ⟨rfl,h⟩
 refine⟨_,rfl,?_⟩
 refine st (mv rfl)<|st (xr rfl rfl)<|st (xr rfl rfl)<|st (sg rfl)<|st (sg rfl)<|xe<|nx<|sq<|sq<|rg<|st (mv rfl)<|st (nt rfl)<|xe<|nx<|?_
 rcases Pe (!(Ct.rootOf s t).2)with hd3|hd3
 have hd4:(Ct.rootOf s t).2=false:=(pJ _).mp hd3
 refine ct rfl hd3<|sq<|rg<|st (sg rfl)<|st (sg rfl)<|st (sg rfl)<|xe<|nx<|rt<|tr<|?_
 refine rr (l8 results33 rfl rfl rfl)<|?_
 have h:=SH.nil 89 5 (SH.Ow (SH.nil 168 2 h))
 exact⟨false,[],[],none,0,none,0,⟨(λh=>by cases h),Hg _⟩,rfl,((h.fr (.c r5 (.c r5 .n))).drop.drop.fr (.c r1 (.c r0 (.c r0 (.c r0 (.c r0 .n))))))⟩
 have hd5:(Ct.rootOf s t).2=true:=(Co _).mp hd3
 refine cf rfl hd3<|sk<|nx<|sq<|dZ [1,3,5,7,9,11,13,14,16,19,21,23,25,26,28,30] (by kernel_rfl) h (.c r4 .n) λw h=>tk (λW H=>gJ rfl (dK (H.b a0)) iO)<|tk (λW H=>mv rfl)<|tk (λW H=>bd [.int .i64 (Ct.rootOf s t).1,.int .i64 0,.int .i64 0,.int .i64 0,.slice none 0 0] Uh rfl (by kernel_rfl))<|tk (λW H=>fa vD rfl)<|tk (λW H=>ld Ba rfl (H.c a0 rfl))<|tk (λW H=>ln vI rfl rfl)<|tk (λW H=>bw rfl rfl (gN (c:=((zs.length+1:Nat):Int)) (by omega) (by omega) (by omega)))<|ff (mk h Ey D3 rfl rfl (by omega) (by unfold maxLen;omega))<|?_
 rintro _ w ⟨b6,rfl,h⟩
 rw[rV oN (by decide) (d:=false) rfl]at h
 refine⟨h.hs (.c r5 .n),?_⟩
 have h:=SH.GZ 1 h
 refine cs (ca eF rfl) ((JI s zs pn pc cn cc hzs hr hCn hbm hpr hZ 12 (Ct.rootOf s t).1 0 0 0 [] none 0 (List.replicate (zs.length+1) false) (some ⟨b6,0,none⟩) (zs.length+1) (zs.length+1) _ _ _ (h.fr (.c r2 (.c r2 (.c r2 (.c r1 (.c r0 .n)))))) rfl (zT ..) rfl (bD _)).mono ?_)
 rintro _ w ⟨ok2,ls2,ps2,bs3,pl2,cl2,pp2,cp2,hq2,rfl,h⟩
 refine⟨_,rfl,h.hs (.c r7 .n),?_⟩
 refine tk (λW H=>mv rfl)<|tk (λW H=>xr rfl rfl)<|tk (λW H=>xr rfl rfl)<|tk (λW H=>xr rfl rfl)<|ef (sg rfl) (h.hs (.c r7 .n))<|ef (sg rfl) (h.hs (.c r7 .n))<|ef (sg rfl) (h.hs (.c r7 .n))<|xz<|nx<|sq<|sq<|rg<|st (mv rfl)<|st (nt rfl)<|xe<|nx<|?_
 rcases Pe (!ok2)with hd7|hd7
 have hd8:ok2=false:=(pJ _).mp hd7
 refine ct rfl hd7<|sq<|rg<|st (sg rfl)<|st (sg rfl)<|st (sg rfl)<|xe<|nx<|rt<|tr<|?_
 refine rr (l8 results33 rfl rfl rfl)<|?_
 have h:=SH.nil 89 5 (SH.Ow (SH.nil 168 2 h))
 exact⟨false,[],[],none,0,none,0,⟨(λh=>by cases h),Hg _⟩,rfl,((h.fr (.c r2 (.c r2 (.c r2 (.c r5 (.c r5 .n)))))).drop.drop.drop.drop.drop.fr (.c r1 (.c r0 (.c r0 (.c r0 (.c r0 .n))))))⟩
 have hd9:ok2=true:=(Co _).mp hd7
 refine cf rfl hd7<|sk<|nx<|sq<|rg<|st (mv rfl)<|st (mv rfl)<|st (sg rfl)<|st (sg rfl)<|st (sg rfl)<|xe<|nx<|rt<|?_
 refine rr (l8 results33 rfl rfl rfl)<|?_
 exact⟨true,ls2,ps2,_,_,_,_,⟨λ_=>⟨hd5,hq2.first hd9⟩,(by have h1:=hq2.RZ;have h2:=gI (List.replicate (zs.length+1) false);rw[zT]at h2;omega)⟩,rfl,(h.fr (.c r2 (.c r5 (.c r5 .n)))).drop.drop.drop⟩
theorem V'{a b:Int}(h:(a==b)=true):a=b:=eq_of_beq h
theorem Il(s:Ct.St)(zs:List (Ct.Node×Lq))(pn pc:Option Addr)(cn cc:Nat)(t:Ct.bC)(h:SH B w (aU 68 14 (.slice pn zs.length cn) zs.length (zs.flatMap cB)::aU 36 1 (.slice pc s.cells.length cc) s.cells.length (s.cells.map (Value.int .i64))::bE zs::L))(hzs:zs.map Prod.fst=aW s)(hr:s.size<=100000000000)(hp:Ct.iV s)(hf:∀n∈aW s,n.aA.length<=1000000/\n.aF.length<=200000000000/\n.aD<18446744073709551616)(hCn:∀r,(s.node r).kind=3->(s.node r).aA.length=Bm.pop 64 (s.node r).aD)(hbm:∀r,(s.node r).aD<18446744073709551616)(hpr:∀r,(s.node r).aF.length<=1000000)(hZ:zs.length<=999999):
  Calls prog 10 #[.agg [.slice pn zs.length cn,.slice pc s.cells.length cc,↑(s.gen:Int)].toArray,.agg [↑t.root,↑t.readOnly].toArray] w λe w'=>∃q:Bool,(q=true->Ct.Ic s t)/\e=.returned ↑q/\SH B w' (aU 68 14 (.slice pn zs.length cn) zs.length (zs.flatMap cB)::aU 36 1 (.slice pc s.cells.length cc) s.cells.length (s.cells.map (Value.int .i64))::bE zs::L):=by
 have hz2:=iC hzs
 have hrm:s.aG.length+s.cells.length+s.gen+s.acc<=100000000000:=hr
 refine Ea (args:=[_,_]) func10 rfl ntmps10 rfl ?_
 refine sq<|rg<|sf (bx h rfl rfl)<|?_
 rintro _ w ⟨b1,rfl,h⟩
 refine sf (bx h rfl rfl)<|?_
 rintro _ w ⟨b2,rfl,h⟩
 refine st (sg rfl)<|xe<|nx<|sq<|rg<|st (gJ rfl (dK (h.b a1)) iO)<|st (gJ rfl (dK (h.b a0)) oG)<|cl (ca eF rfl) ((PC s zs pn pc cn cc t (h.fr (.c r2 (.c r2 (.c r2 .n)))) hzs hr hp hf hCn hbm hpr hZ).mono ?_)
 rintro _ w ⟨ok2,ls2,ps2,pl2,cl2,pp2,cp2,⟨hq2,hl2⟩,rfl,h⟩
 refine⟨_,rfl,?_⟩
 refine st (mv rfl)<|st (xr rfl rfl)<|st (xr rfl rfl)<|st (xr rfl rfl)<|st (sg rfl)<|st (sg rfl)<|st (sg rfl)<|xe<|nx<|sq<|sq<|rg<|st (sg rfl)<|xe<|nx<|bk<|?_
 refine lp (α:=Nat×Bool) (λρ=>(.c 2 ↑b1 (.c 3 ↑b2 (.c 5 (.slice pl2 ls2.length cl2) (.c 7 (.bool ρ.2) (.c 8 (.int .i64 (ρ.1:Int)) .n)))))) (λρ w=>SH B w (bV 2 (.slice pp2 ps2.length cp2) ps2.length (ps2.flatMap aR)::aU 89 5 (.slice pl2 ls2.length cl2) ls2.length (ls2.flatMap JC)::aU 68 14 (.slice pn zs.length cn) zs.length (zs.flatMap cB)::aU 36 1 (.slice pc s.cells.length cc) s.cells.length (s.cells.map (Value.int .i64))::bE zs::bl b2 ([↑t.root,↑t.readOnly]) 35::bl b1 ([.slice pn zs.length cn,.slice pc s.cells.length cc,↑(s.gen:Int)]) 53::L)/\(ρ.1<=ls2.length)/\(ρ.2=true->ok2=true/\(1<=ρ.1->(s.load (s.node (s.load (s.node (Ct.rootOf s t).1).main).2).prev).2=0))) (λρ=>ls2.length-ρ.1) (0,ok2) ⟨rfl,rfl,rfl,rfl,rfl,trivial⟩ ⟨h,(Hg _),(λh=>⟨h,λh=>absurd h (by omega)⟩)⟩ ?_
 rintro⟨k,okv⟩ w ⟨h,hk,hq⟩
 dsimp only at *
 refine sq<|sq<|rg<|st (mv rfl)<|st (mv rfl)<|st (ln Lk rfl rfl)<|st (bi rfl rfl rfl)<|st (mv rfl)<|?_
 rcases Pe (decide (((k:Int):Int)<(ls2.length:Int)))with hd3|hd3
 ·have hg4:=bI hd3
  refine gT rfl rfl hd3<|st (mv rfl)<|st (pT rfl hd3 rfl)<|xe<|nx<|?_
  rcases Pe okv with hd5|hd5
  ·refine ct rfl hd5<|sk<|nx<|sq<|bk<|sq<|?_
   obtain⟨b6,rfl⟩:=h.fp a1 (by omega)
   refine dZ [1,3,5,7,9,11,13,14,17,18,20] (by kernel_rfl) h (.c r6 (.c r1 .n)) λw h=>tk (λW H=>gJ rfl (dK (H.b a0)) iO)<|tk (λW H=>gJ rfl (dK (H.b a0)) iO)<|tk (λW H=>mv rfl)<|tk (λW H=>mv rfl)<|tk (λW H=>ix (j:=k) Lk aAg rfl rfl (by omega))<|tk (λW H=>fa pN rfl)<|tk (λW H=>ld yA rfl ((H.ro a1).x S2 (by decide) (by omega) {} 0 _ rfl))<|cs (ca eF rfl) ((fK s zs pn pc cn cc (ls2.getD k {}).i (h.fr (.c r2 (.c r2 (.c r2 .n)))) hzs hr).mono ?_)
   rintro _ w ⟨q7,rfl,h⟩
   refine⟨_,rfl,h.hs (.c r7 (.c r5 .n)),?_⟩
   refine tk (λW H=>fd V1 rfl rfl)<|cs (ca eF rfl) ((vS s zs pn pc cn cc (s.node (ls2.getD k {}).i).main (h.fr (.c r1 (.c r1 (.c r1 .n)))) hzs hr).mono ?_)
   rintro _ w ⟨rfl,h⟩
   refine⟨_,rfl,h.hs (.c r7 (.c r5 .n)),?_⟩
   refine ef (sg rfl) (h.hs (.c r7 (.c r5 .n)))<|xz<|nx<|dZ [1,3,5,6,9,10,13,14] (by kernel_rfl) h (.c r7 .n) λw h=>tk (λW H=>gJ rfl (dK (H.b a0)) iO)<|tk (λW H=>gJ rfl (dK (H.b a0)) iO)<|tk (λW H=>mv rfl)<|cs (ca eF rfl) ((fK s zs pn pc cn cc (s.load (s.node (ls2.getD k {}).i).main).2 (h.fr (.c r0 (.c r0 (.c r0 .n)))) hzs hr).mono ?_)
   rintro _ w ⟨q8,rfl,h⟩
   refine⟨_,rfl,h.hs (.c r8 .n),?_⟩
   refine tk (λW H=>fd X5 rfl rfl)<|cs (ca eF rfl) ((vS s zs pn pc cn cc (s.node (s.load (s.node (ls2.getD k {}).i).main).2).prev (h.fr (.c r1 (.c r1 (.c r1 .n)))) hzs hr).mono ?_)
   rintro _ w ⟨rfl,h⟩
   refine⟨_,rfl,h.hs (.c r8 .n),?_⟩
   refine tk (λW H=>bi rfl rfl rfl)<|ef (sg rfl) (h.hs (.c r8 .n))<|xz<|bn<|nx<|rg<|st (mv rfl)<|st (bw rfl rfl (gN (c:=((k+1:Nat):Int)) (by omega) (by omega) (by omega)))<|st (sg rfl)<|xe<|nx<|?_
   exact⟨((k+1),(((s.load (s.node (s.load (s.node (ls2.getD k {}).i).main).2).prev).2:Int)==0)),⟨rfl,rfl,rfl,rfl,rfl,trivial⟩,⟨((h.fr (.c r3 (.c r3 .n))).drop.drop.fr (.c r3 (.c r3 (.c r0 (.c r0 (.c r0 (.c r0 (.c r0 .n)))))))),(by(try dsimp only);omega),(λhz=>by
    obtain⟨h1,h2⟩:=hq hd5
    refine⟨h1,λ_=>?_⟩
    cases k with
    |succ k=>exact h2 (Nat.succ_le_succ (Hg k))
    |zero=>
     obtain⟨_,x,l',e1,e2⟩:=hq2 h1
     subst e1
     have hz:=V' hz
     rw[<- e2];exact hz)⟩,by(try dsimp only);omega⟩
  ·refine cf rfl hd5<|xt<|tx<|tx<|be<|nx<|sq<|dZ [1,3,5,7,9,11,12,14,17,19,21,22] (by kernel_rfl) h .n λw h=>tk (λW H=>mv rfl)<|tk (λW H=>mv rfl)<|Ez rfl rfl hd5<|Ez rfl rfl hd5<|Ez rfl rfl hd5<|Ez rfl rfl hd5<|Ez rfl rfl hd5<|Ez rfl rfl hd5<|Ez rfl rfl hd5<|Ez rfl rfl hd5<|tk (λW H=>pF rfl hd5 rfl)<|ef (sg rfl) (h.hs .n)<|xz<|nx<|rt<|?_
   refine rr (jP results10 rfl)<|?_
   exact⟨false,(λh=>by cases h),rfl,(h.fr (.c r0 (.c r0 (.c r3 (.c r3 .n))))).drop.drop.drop.drop⟩
 ·have hg9:=mD hd3
  refine gF rfl rfl hd3<|st (pF rfl hd3 rfl)<|xe<|nx<|cF rfl<|xt<|tx<|tx<|be<|nx<|sq<|?_
  rcases Pe okv with hd10|hd10
  ·refine dZ [1,3,5,7,9,11,12,14,17,19,21,22] (by kernel_rfl) h (.c r6 (.c r5 .n)) λw h=>tk (λW H=>mv rfl)<|tk (λW H=>mv rfl)<|oX rfl rfl hd10<|tk (λW H=>gJ rfl (dK (H.b a0)) iO)<|oX rfl rfl hd10<|tk (λW H=>gJ rfl (dK (H.b a0)) iO)<|oX rfl rfl hd10<|tk (λW H=>fa XC rfl)<|oX rfl rfl hd10<|tk (λW H=>ld Bi rfl (H.c a1 rfl))<|oX rfl rfl hd10<|cs (ca eF rfl) ((vS s zs pn pc cn cc t.root (h.fr (.c r2 (.c r2 (.c r2 .n)))) hzs hr).mono ?_)
   rintro _ w ⟨rfl,h⟩
   refine⟨_,rfl,h.hs (.c r6 (.c r5 .n)),?_⟩
   refine oX rfl rfl hd10<|cs (ca eF rfl) ((fK s zs pn pc cn cc (s.load t.root).2 (h.fr (.c r0 (.c r0 (.c r0 .n)))) hzs hr).mono ?_)
   rintro _ w ⟨q11,rfl,h⟩
   refine⟨_,rfl,h.hs (.c r7 (.c r6 .n)),?_⟩
   refine oX rfl rfl hd10<|tk (λW H=>fd U4 rfl rfl)<|oX rfl rfl hd10<|tk (λW H=>bi rfl rfl rfl)<|tk (λW H=>pT rfl hd10 rfl)<|ef (sg rfl) (h.hs (.c r7 (.c r6 .n)))<|xz<|nx<|rt<|?_
   refine rr (jP results10 rfl)<|?_
   refine⟨(((s.node (s.load t.root).2).kind:Int)==2),λhz=>?_,rfl,(h.fr (.c r0 (.c r3 (.c r3 (.c r3 (.c r3 .n)))))).drop.drop.drop.drop.drop⟩
   obtain⟨h1,h2⟩:=hq hd10
   obtain⟨h3,x,l',e1,e2⟩:=hq2 h1
   have hkl:1<=k:=by have hzl:=congrArg List.length e1;rw[Qb]at hzl;omega
   exact⟨h3,h2 hkl,eq_of_beq hz⟩
  ·refine dZ [1,3,5,7,9,11,12,14,17,19,21,22] (by kernel_rfl) h .n λw h=>tk (λW H=>mv rfl)<|tk (λW H=>mv rfl)<|Ez rfl rfl hd10<|Ez rfl rfl hd10<|Ez rfl rfl hd10<|Ez rfl rfl hd10<|Ez rfl rfl hd10<|Ez rfl rfl hd10<|Ez rfl rfl hd10<|Ez rfl rfl hd10<|tk (λW H=>pF rfl hd10 rfl)<|ef (sg rfl) (h.hs .n)<|xz<|nx<|rt<|?_
   refine rr (jP results10 rfl)<|?_
   exact⟨false,(λh=>by cases h),rfl,(h.fr (.c r0 (.c r0 (.c r3 (.c r3 .n))))).drop.drop.drop.drop⟩
end Go.Q9
end
