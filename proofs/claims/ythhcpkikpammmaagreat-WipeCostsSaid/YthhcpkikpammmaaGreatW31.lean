/- Parts of a proof: Ayg, Pt, Ayh. -/
import Derived.Test.YthhcpkikpammmaaGreatW30
set_option linter.unusedVariables false
set_option linter.unusedSimpArgs false
set_option maxRecDepth 100000
set_option maxHeartbeats 4000000
section
namespace Go.Q9
open Go.Proofs.Tryz
open Go.E
theorem S1:fo prog 104 1=some 1:=by kernel_rfl
theorem JW:fo prog 104 2=some 15:=by kernel_rfl
theorem NZ:fo prog 104 3=some 16:=by kernel_rfl
end Go.Q9
end
section
namespace Go.Q9
open Go.Proofs.Tryz
open Go.RowKit Go.E
attribute [local irreducible] gB wpS Go.E.X XS C jU kP fin Y U F Ca jT bl rb aU bV ex ce pu sK gK bK zK gM fO dH gP nE rD
variable{B w:World}{L:List As}
theorem Aa(S:dN)(tb:Nat)(c:Cc)(k:Nat)(b:Bool)(h:SH B w (bl tb (oI S c k b) 104::L)):
  Calls prog 15 #[↑tb] w λe w'=>e=.returned (.bool (c.kind==0))/\SH B w' (bl tb (oI S c k b) 104::L):=by
 refine bZ func15 ntmps15 h λw h=>?_
 exact rz ⟨rfl,h⟩
theorem KA(S:dN)(tb:Nat)(c:Cc)(k:Nat)(b:Bool)(h:SH B w (bl tb (oI S c k b) 104::L)):
  Calls prog 20 #[↑tb] w λe w'=>e=.returned (.agg (Mf (if(c.kind==0)=true then c.r else{})).toArray)/\SH B w' (bl tb (oI S c k b) 104::L):=by
 refine bZ func20 ntmps20 h λw h=>?_
 refine jA h λb1 w h=>?_
 refine bA (Aa S _ c _ _ h.to) λw h=>?_
 refine qc h (λhd2 w h=>?_) λhd2 w h=>?_
 ·have hd3:((c.kind:Int)==0)=false:=(pJ _).mp hd2
  have hg4:=AD hd3
  refine go h λw h=>?_
  refine rr (bP rfl rfl (h.b a1) Row.h) ?_
  refine⟨?_,h.to⟩
  rw[hd3];rfl
 ·have hd5:((c.kind:Int)==0)=true:=(Co _).mp hd2
  have hg6:=eq_of_beq hd5
  refine go h λw h=>?_
  refine st (gJ (cs:=[↑c.r.err,↑c.r.found,.int .u64 (c.r.value:Int),↑c.r.key,↑c.r.count,↑c.r.ref,↑c.r.aE.root,↑c.r.aE.readOnly]) rfl (lG (h.b a0) 7 rfl) Row.h)<|go h λw h=>?_
  refine rr (bP rfl rfl (h.b a1) Row.h) ?_
  refine⟨?_,h.to⟩
  rw[hd5];rfl
theorem RJ(S:dN)(hM:∀w,Rl S.t S.x S.ab w)(n tb:Nat)(u:Ct.I Ct.Result)(c:Cc)(k:Nat)(s:Ct.St)(h:SH B w (bl tb (oI S c k false) 104::nE S dW (n+1) u c::S.a s::L))(hs:Ct.Rm 101 s)(hu:u.ended=none)(hd:(c.kind==0)=false)(hk:k<=9000000000000000000):
  Calls prog 39 #[↑tb] w λe w'=>∃s' u' c',u.step s=(s',u')/\e=.returned (.tuple #[])/\SH B w' (bl tb (oI S c' (k+1) false) 104::nE S dW n u' c'::S.a s'::L):=by
 refine bZ func39 ntmps39 h λw h=>?_
 refine cl (ca eF rfl) ((Aa S tb c k false (h.fr (.c r0 .n))).mono ?_)
 rintro _ w ⟨rfl,h⟩
 refine⟨_,rfl,?_⟩
 refine st (mv rfl)<|gT rfl rfl hd<|st (mv rfl)<|gT rfl rfl hd<|st (nc rfl rfl)<|gT rfl rfl hd<|st (fa NZ rfl)<|gT rfl rfl hd<|st (ld xN rfl (h.c a0 rfl))<|st (pF rfl hd rfl)<|xe<|nx<|cF rfl<|sk<|nx<|sq<|rg<|st (mv rfl)<|st (nc rfl rfl)<|st (fa NZ rfl)<|?_
 refine sf (so h rfl rfl rfl AU rfl (.s (.s (.s (.s (.s (.s (.s (.s (.s (.s (.s (.s (.s (.s (.s (.s (.r .d))))))))))))))))) u0)<|?_
 rintro _ w h
 refine xe<|nx<|sq<|rg<|st (mv rfl)<|st (nc rfl rfl)<|st (fa JW rfl)<|st (ld jE rfl (h.c a0 rfl))<|st (bw rfl rfl (gN (c:=((k+1:Nat):Int)) (by omega) (by omega) (by omega)))<|st (nc rfl rfl)<|st (fa JW rfl)<|?_
 refine sf (so h rfl rfl rfl Bf rfl (.s (.s (.s (.s (.s (.s (.s (.s (.s (.s (.s (.s (.s (.s (.s (.r .d)))))))))))))))) u0)<|?_
 rintro _ w h
 refine xe<|nx<|sq<|?_
 refine Uc (F:=[bl tb ([S.v,↑c.kind,↑c.cell,↑c.dC,↑c.new,c.ld.val,c.tr.val,↑c.r.err,↑c.r.found,.int .u64 (c.r.value:Int),↑c.r.key,↑c.r.count,↑c.r.ref,↑c.r.aE.root,↑c.r.aE.readOnly,.int .i64 ((k+1:Nat):Int),↑true]) 104]) [(true,[1,3,5,7,9,11,13,15,17,18,21,23]),(false,[24])] (by kernel_rfl) h (λw h=>(hC (h.at_ a0) hN)) λw h=>go h λw h=>?_
 refine tk (λW H=>gJ (cs:=[↑c.kind,↑c.cell,↑c.dC,↑c.new,c.ld.val,c.tr.val,↑c.r.err,↑c.r.found,.int .u64 (c.r.value:Int),↑c.r.key,↑c.r.count,↑c.r.ref,↑c.r.aE.root,↑c.r.aE.readOnly]) rfl (lG (H.b a0) 1 rfl) Row.h)<|go h λw h=>?_
 refine Zs (Tf S hM _ u c _ h.to hs hu) λs1 uz2 c3 hq4 w h=>?_
 refine rn (rK results39)<|go h λw h=>?_
 refine⟨s1,uz2,c3,hq4,rfl,h.to⟩
theorem Ht(S:dN)(n:Nat)(th:Fv)(k:Unit->Ct.I Ct.Result)(s:Ct.St)(h:SH B w (gP S dW n 60 qI k th::S.a s::L))(hs:Ct.Rm 60 s):
  Calls prog 36 #[S.v,th.val] w λe w'=>∃tb s' u,(k ()).head s=(s',u)/\e=.returned (.pointer (some ⟨tb,0,none⟩))/\SH B w' (kU S n tb u 0::S.a s'::L):=by
 refine bZ func36 ntmps36 h λw h=>?_
 refine jX h λb1 w h=>?_
 refine cl (ca eF rfl) ((Lz S dW n th k s (h.fr (.c r1 (.c r1 .n))) hs).mono ?_)
 rintro _ w ⟨s2,uz3,c4,hq5,rfl,h⟩
 refine⟨_,rfl,?_⟩
 refine st (nc rfl rfl)<|st (fa S1 rfl)<|?_
 refine sf (so h rfl rfl rfl fZ (eO _) (.s (.r (.r (.r (.r (.r (.r (.r (.r (.r (.r (.r (.r (.r (.r .d))))))))))))))) u2)<|?_
 rintro _ w h
 refine xe<|nx<|sq<|rg<|st (mv rfl)<|st (sg rfl)<|xe<|nx<|rt<|?_
 refine go h λw h=>?_
 refine rz ?_
 have h:=(h.fr (.c r2 (.c r0 (.c r0 .n))))
 exact⟨b1,s2,uz3,hq5,rfl,SH.dU c4 (SH.is (l:=[bl b1 (oI S c4 0 false) 104,nE S dW n uz3 c4]) h)⟩
theorem SH.to{S:dN}{n tb k:Nat}{u:Ct.I Ct.Result}(h:SH B w (kU S n tb u k::L)):∃c,SH B w (bl tb (oI S c k false) 104::nE S dW n u c::L):=by
 obtain⟨c,h⟩:=SH.ex (f:=λc:Cc=>Go.E.se [bl tb (oI S c k false) 104,nE S dW n u c]) h
 exact⟨c,SH.se h⟩
theorem SH.ti{S:dN}{n tb k:Nat}{u:Ct.I Ct.Result}{c:Cc}(h:SH B w (bl tb (oI S c k false) 104::nE S dW n u c::L)):SH B w (kU S n tb u k::L):=
 SH.dU (f:=λc:Cc=>Go.E.se [bl tb (oI S c k false) 104,nE S dW n u c]) c (SH.is (l:=[_,_]) h)
theorem BX(S:dN)(n tb k:Nat)(u:Ct.I Ct.Result)(h:SH B w (kU S n tb u k::L)):
  Calls prog 15 #[↑tb] w λe w'=>e=.returned ↑u.ended.isSome/\SH B w' (kU S n tb u k::L):=by
 obtain⟨c,h⟩:=SH.to h
 have hc:=uD (h.fr (.c r1 .n))
 refine(Aa S tb c k false h).mono ?_
 rintro e w' ⟨rfl,h⟩
 exact⟨by rw[hc.1],SH.ti h⟩
theorem Ew(S:dN)(n tb k:Nat)(u:Ct.I Ct.Result)(h:SH B w (kU S n tb u k::L)):
  Calls prog 20 #[↑tb] w λe w'=>e=.returned (.agg (Mf (u.ended.getD {})).toArray)/\SH B w' (kU S n tb u k::L):=by
 obtain⟨c,h⟩:=SH.to h
 have hc:=uD (h.fr (.c r1 .n))
 refine(KA S tb c k false h).mono ?_
 rintro e w' ⟨rfl,h⟩
 refine⟨?_,SH.ti h⟩
 cases he:u.ended with
 |none=>rw[hc.1,he];rfl
 |some r=>rw[hc.1,he,hc.2.2.2.2.2 r he];rfl
theorem Om(S:dN)(hM:∀w,Rl S.t S.x S.ab w)(n tb k:Nat)(u:Ct.I Ct.Result)(s:Ct.St)(h:SH B w (kU S (n+1) tb u k::S.a s::L))(hs:Ct.Rm 101 s)(hu:u.ended=none)(hk:k<=9000000000000000000):
  Calls prog 39 #[↑tb] w λe w'=>e=.returned (.tuple #[])/\SH B w' (kU S n tb (u.step s).2 (k+1)::S.a (u.step s).1::L):=by
 obtain⟨c,h⟩:=SH.to h
 have hc:=uD (h.fr (.c r1 .n))
 refine(RJ S hM n tb u c k s h hs hu (by rw[hc.1,hu];rfl) hk).mono ?_
 rintro e w' ⟨s',u',c',hq,rfl,h⟩
 rw[hq]
 exact⟨rfl,SH.ti h⟩
section
attribute [local semireducible] nE gP rD dH
end
end Go.Q9
end
section
namespace Go.Q9
open Go.Proofs.Tryz
open Go.E
end Go.Q9
end
