/- Parts of a proof: Ev8, Azc. -/
import Derived.Test.YtlpbjpanggcbbaaGreatW48
set_option linter.unusedVariables false
set_option linter.unusedSimpArgs false
set_option maxRecDepth 100000
set_option maxHeartbeats 4000000
section
namespace Go.Ct
open Go.Q9
def V0:List Ks:=[{k:=⟨#[97]⟩},{k:=⟨#[98]⟩}]
def DP:bC:=(hJ {}).2
def T1(j:Nat):Call:={kind:=8,aE:=DP,key:=(V0.getD j {}).k,value:=3}
def U3(s:St)(c:Call):Nat->X
 |0=>bX (bY c FU) 0 ⟨{call:=c},s⟩
 |i+1=>bX (bY (U3 s c i).e.call FU) 1 (U3 s c i)
def Eo:Nat->St
 |0=>(hJ {}).1
 |j+1=>(U3 (Eo j) (T1 j) 8).s
theorem U4:∀j,j<2->∀i,i<8->(U3 (Eo j) (T1 j) i).e.done=false:=by decide+kernel
theorem U0:∀j,j<2->(U3 (Eo j) (T1 j) 8).e.done=true:=by decide+kernel
theorem YT:∀j,j<3->(Eo j).size<=1000:=by decide+kernel
theorem XB:∀j,j<2->(T1 j).key.size<=9223372036854775807:=by decide+kernel
theorem U1:DP.readOnly=false:=by decide+kernel
def OS:St:=Eo 2
def U6:St:={OS with acc:=0}
def V7:Call:={kind:=9,aE:=DP,key:=⟨#[97]⟩}
def oW:Nat->St×I Result
 |0=>(SP V7 1001).head U6
 |i+1=>(oW i).2.step (oW i).1
set_option maxRecDepth 100000
instance V6(n:Node)(L:Nat):Decidable (n.Fit L):=by unfold Node.Fit Node.fits;infer_instance
def P7:Nat->St×I Result->Bool
 |0,p=>p.2.ended.isSome&&(decide (∀n∈p.1.aG,n.Fit p.1.aG.length)&&decide (p.1.size<=1000))
 |k+1,p=>!p.2.ended.isSome&&(decide (∀n∈p.1.aG,n.Fit p.1.aG.length)&&(decide (p.1.size<=1000)&&P7 k (p.2.step p.1)))
theorem IJ:P7 151 (oW 0)=true:=by decide+kernel
theorem vD:∀k j,P7 k (oW j)=true->(∀i,i<k->(oW (j+i)).2.ended.isSome=false)/\(oW (j+k)).2.ended.isSome=true/\∀i,i<=k->(∀n∈(oW (j+i)).1.aG,n.Fit (oW (j+i)).1.aG.length)/\(oW (j+i)).1.size<=1000
 |0,j,h=>by
  unfold P7 at h
  obtain⟨h1,h2⟩:=Bool.and_eq_true_iff.1 h
  obtain⟨h2,h3⟩:=Bool.and_eq_true_iff.1 h2
  refine⟨λi hi=>absurd hi (Nat.not_lt_zero i),h1,λi hi=>?_⟩
  obtain rfl:i=0:=by omega
  exact⟨cW h2,cW h3⟩
 |k+1,j,h=>by
  unfold P7 at h
  obtain⟨h1,h2⟩:=Bool.and_eq_true_iff.1 h
  obtain⟨h2,h3⟩:=Bool.and_eq_true_iff.1 h2
  obtain⟨h3,h4⟩:=Bool.and_eq_true_iff.1 h3
  obtain⟨r1,r2,r3⟩:=vD k (j+1) h4
  refine⟨λi hi=>?_,by rw[show j+(k+1)=j+1+k by omega];exact r2,λi hi=>?_⟩
  ·cases i with
   |zero=>exact(lC _).mp h1
   |succ i=>rw[show j+(i+1)=j+1+i by omega];exact r1 i (by omega)
  ·cases i with
   |zero=>exact⟨cW h2,cW h3⟩
   |succ i=>rw[show j+(i+1)=j+1+i by omega];exact r3 i (by omega)
theorem T4(i:Nat)(h:i<151):(oW i).2.ended.isSome=false:=by have:=(vD 151 0 IJ).1 i h;rwa [xE]at this
theorem T0:(oW 151).2.ended.isSome=true:=(vD 151 0 IJ).2.1
theorem Fw(i:Nat)(h:i<152):∀n∈(oW i).1.aG,n.Fit (oW i).1.aG.length:=by have:=((vD 151 0 IJ).2.2 i (by omega)).1;rwa [xE]at this
theorem Bh(i:Nat)(h:i<152):(oW i).1.size<=1000:=by have:=((vD 151 0 IJ).2.2 i (by omega)).2;rwa [xE]at this
theorem U2(i:Nat)(h:i<152):Rm 101 (oW i).1:=⟨Fw i h,by have:=Bh i h;unfold cN;omega⟩
theorem S5:(oW 151).2.ended=some {found:=true,value:=3,count:=1}:=by decide+kernel
theorem WY:∀n∈U6.aG,n.Fit U6.aG.length:=by decide+kernel
theorem P9:U6.size<=1000:=by decide+kernel
theorem U5:Rm 60 U6:=⟨WY,by have:=P9;unfold cN;omega⟩
theorem S3:eK OS:=WY
theorem P6:OS.size<=1000:=by decide+kernel
theorem TY:iV OS:=⟨by decide+kernel,by decide+kernel,by decide+kernel,by decide+kernel,by decide+kernel,by decide+kernel,by decide+kernel⟩
theorem Zv:iV (oW 151).1:=⟨by decide+kernel,by decide+kernel,by decide+kernel,by decide+kernel,by decide+kernel,by decide+kernel,by decide+kernel⟩
def V1:Int:=52
theorem GR:((oW 151).1.node V1).aA.length=1:=by decide+kernel
theorem LS:Flat (oW 151).1 DP ((4:Nat):Int) V1:=⟨by decide+kernel,by decide+kernel,by decide+kernel,by decide+kernel,by decide+kernel,λk h=>by
 rw[GR]at h
 obtain rfl:k=0:=by omega
 decide+kernel⟩
theorem Xv:((oW 151).1.node V1).aD<18446744073709551616:=by decide+kernel
theorem DX:dJ (oW 151).1 V1=[⟨⟨#[98]⟩,3⟩]:=by decide+kernel
def W8(g:Ga)(s:St):Prop:=GW g/\nZ g s/\eK s/\Tk g DP
theorem V8:∃g,W8 g (Eo 0):=by
 obtain⟨g,h⟩:=d5
 exact⟨g,h.gw,h.PI,h.fit,h.GO _ (List.mem_singleton.2 rfl)⟩
end Go.Ct
end
section
namespace Go.Q9
open Go.Proofs.Tryz
open Go.E
theorem T7:(prog.info? 165).map (·.size)=some 5:=by kernel_rfl
end Go.Q9
end
