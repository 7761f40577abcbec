/- Parts of a proof: Du, Ayv, Pz5, Ayt. -/
import Derived.Test.YtnhdmcipglnkfaaGreatW45
set_option linter.unusedVariables false
set_option linter.unusedSimpArgs false
set_option maxRecDepth 100000
set_option maxHeartbeats 4000000
section
namespace Go.Q9
open Go.Proofs.Tryz
open Go.RowKit Go.E Go.Ct
attribute [local irreducible] gA wpS Go.E.X XS C kV lL fin Y U F Ca kU bl rb aV bS ex ce pu sK gK bK zK gG fE cZ gY mA rQ
def i9(S:fX)(at_:Int)(x:Ct.Node)(q:Lq)(h0:Nat)(key:ByteArray)(v:Nat)(gen:Int):List Value:=[S.v,↑at_,↑x.kind,↑x.gen,↑x.main,.int .u64 (x.aC:Int),.slice q.pb x.aA.length q.cb,.int .u64 (x.hash:Int),↑x.key,.int .u64 (x.value:Int),.slice q.pp x.aH.length q.cp,↑x.prev,↑x.dO,↑x.aS,↑x.new,↑x.status,.int .u64 (h0:Int),↑key,.int .u64 (v:Int),↑gen]
variable{B w:World}{L:List As}
theorem aJa(a b:Ct.bA)(lb:Nat)(h:SH B w (bS 2 (.slice (some ⟨lb,0,none⟩) 2 2) 2 ([a,b].flatMap aR)::L))(xL:Ct.bO a.key b.key=false):
  Calls prog 295 #[.slice (some ⟨lb,0,none⟩) 2 2] w λe w'=>∃p' c',e=.returned (.slice p' (Ct.gE a b).length c')/\SH B w' (bS 2 (.slice p' (Ct.gE a b).length c') (Ct.gE a b).length ((Ct.gE a b).flatMap aR)::L):=by
 rw[show (Ct.gE a b).length=2 by unfold Ct.gE;split<;>rfl];exact P' a b lb h xL
theorem F9(a b:Ct.bA):(Ct.gE a b).length=2:=by unfold Ct.gE;split<;>rfl
theorem HG(h:SH B w L):Calls prog 138 #[] w λe w'=>∃q,e=.returned (.agg (aK ({kind:=3}:Ct.Node) q).toArray)/\SH B w' (aL ({kind:=3}:Ct.Node) q::L):=by
 refine(ND h).mono ?_
 rintro e w' ⟨rfl,h⟩
 exact⟨{},rfl,SH.fI _ rfl rfl h⟩
theorem nf3{n:Ct.Node}(h:n.Fit 1):Ct.NF n:=h.nf (by decide)
theorem c3:({kind:=3}:Ct.Node).oT=true:=by decide+kernel
theorem c3i{i a:Int}(h0:0<=i)(h1:i<64)(ha:1<=a):(Ct.aO {kind:=3} i a).1.oT=true:=by
 have f:=nf3 (Ct.eO (Ct.iS 1) i a)
 rw[Ct.Ez h0 h1 ha]at f ⊢
 exact Ct.CF rfl (f.v3 rfl)
theorem aJi{i a k:Int}(h0:0<=i)(h1:i<64)(k0:0<=k)(k1:k<64)(xL:i≠k)(ha:1<=a):Bm.has (Ct.aO {kind:=3} i a).1.aC k=false:=by
 rcases Ct.FO (Ct.DT h0 h1 k0 k1 xL ha (Int.le_refl 1)).2 with h|h
 ·rw[c3i h0 h1 ha]at h;cases h
 ·exact h
theorem oF(s:Ct.St)(n:Ct.Node)(i:Int):1<=(s.alloc n i).2:=by unfold Ct.St.alloc;dsimp only;omega
theorem SZ{L h0:Nat}{x:Ct.Node}{key:ByteArray}{v:Nat}(hh:h0<18446744073709551616)(hkx:x.key.size<=64)(vE:key.size<=64)(xL:Ct.bO x.key key=false):Ct.Node.Fit (L+1) {kind:=6,hash:=h0,aH:=Ct.gE ⟨x.key,x.value⟩ ⟨key,v⟩}:=by
 have hl:(Ct.gE (⟨x.key,x.value⟩:Ct.bA) ⟨key,v⟩).length=2:=by unfold Ct.gE;split<;>rfl
 refine Ct.DK _ _ _ hh (by omega) (by omega) (Ct.yM _ _ xL) λq hq=>?_
 unfold Ct.gE at hq
 split at hq<;>· simp at hq;rcases hq with rfl|rfl<;>assumption
def j1(n:Nat):Prop:=∀(j:Nat) (S:fX) (at_:Int) (x:Ct.Node) (q:Lq) (h0:Nat) (key:ByteArray) (v:Nat) (gen:Int) (bb:Nat) (B w:World) (L:List As) (s:Ct.St),SH B w (bl bb (i9 S at_ x q h0 key v gen) 259::S.a s::L)->Ct.Rm (j+2*n+3) s->
 1<=at_->1<=gen->h0<18446744073709551616->x.hash<18446744073709551616->key.size<=64->x.key.size<=64->Ct.bO x.key key=false->n<=11->Calls prog 289 #[↑bb,.int .i64 (11-(n:Int))] w λe w'=>∃s' r,(∀{β:Type} (k:Int->Ct.I β),(Ct.pK x at_ h0 key v gen n k).head s=(k r).head s')/\1<=r/\Ct.Rm j s'/\e=.returned (.int .i64 r)/\SH B w' (bl bb (i9 S at_ x q h0 key v gen) 259::S.a s'::L)
theorem VL(j:Nat)(S:fX)(at_:Int)(x:Ct.Node)(q:Lq)(h0:Nat)(key:ByteArray)(v:Nat)(gen:Int)(bb:Nat)(s:Ct.St)(h:SH B w (bl bb (i9 S at_ x q h0 key v gen) 259::S.a s::L))(hs:Ct.Rm (j+2*0+3) s)(KU:1<=at_)(wF:1<=gen)(hh:h0<18446744073709551616)(hxh:x.hash<18446744073709551616)(vE:key.size<=64)(hkx:x.key.size<=64)(CZ:Ct.bO x.key key=false):
  Calls prog 289 #[↑bb,.int .i64 (11-((0:Nat):Int))] w λe w'=>∃s' r,(∀{β:Type} (k:Int->Ct.I β),(Ct.pK x at_ h0 key v gen 0 k).head s=(k r).head s')/\1<=r/\Ct.Rm j s'/\e=.returned (.int .i64 r)/\SH B w' (bl bb (i9 S at_ x q h0 key v gen) 259::S.a s'::L):=by
 refine cN func289 ntmps289 h λw h=>?_
 refine go h λw h=>?_
 refine fD [1,3,5,7,9,11,13,15,17,19,21,23,25,27,29,30,32,34] (by kernel_rfl) h (.c r0 .n) λw h=>go h λw h=>?_
 refine tk (λW H=>kB (cs:=[↑key,.int .u64 (v:Int)]) rfl (hX (H.b a0) 17 rfl) Row.h)<|go h λw h=>?_
 refine ff (bu [↑x.key,.int .u64 (x.value:Int),↑key,.int .u64 (v:Int)] h gB.h Ss.h rfl (by kernel_rfl) rfl (by decide) (by decide)) ?_
 rintro _ w ⟨b1,rfl,h⟩
 refine gz h λw h=>?_
 have h:SH B w (bS 2 (.slice (some ⟨b1,0,none⟩) 2 2) 2 (([(⟨x.key,x.value⟩:Ct.bA),⟨key,v⟩]).flatMap aR)::bl bb (i9 S at_ x q h0 key v gen) 259::S.a s::L):=(h.fr (.c r0 .n)).fz
 refine LR (aJa ⟨x.key,x.value⟩ ⟨key,v⟩ _ h.to CZ) λqp2 cp3 w h=>?_
 refine fD [1,3,5,7,9,11,13,15,17,21,23,18,24,26] (by kernel_rfl) h (.c r1 .n) λw h=>go h λw h=>?_
 refine nP (Wu _ _ _ _ h.to (by rw[F9];decide)) λq4 w h=>?_
 refine cs (ci (S.sA h a2) rfl rfl) ((dY S s ({kind:=6,hash:=h0,aH:=Ct.gE ⟨x.key,x.value⟩ ⟨key,v⟩}:Ct.Node) q4 0 h.to hs (SZ (x:=x) (v:=v) hh hkx vE CZ)).mono ?_)
 rintro _ w ⟨rfl,h⟩
 have hs:=hs.alloc (SZ (x:=x) (v:=v) hh hkx vE CZ) 0
 refine⟨_,rfl,h.hs (.c r1 .n),?_⟩
 refine go h λw h=>?_
 refine rz ?_
 exact⟨_,_,λk=>rfl,oF _ _ _,hs.less (by omega),rfl,h.to⟩
theorem VV(n:Nat)(N9:j1 n)(j:Nat)(S:fX)(at_:Int)(x:Ct.Node)(q:Lq)(h0:Nat)(key:ByteArray)(v:Nat)(gen:Int)(bb:Nat)(s:Ct.St)(h:SH B w (bl bb (i9 S at_ x q h0 key v gen) 259::S.a s::L))(hs:Ct.Rm (j+2*(n+1)+3) s)(KU:1<=at_)(wF:1<=gen)(hh:h0<18446744073709551616)(hxh:x.hash<18446744073709551616)(vE:key.size<=64)(hkx:x.key.size<=64)(CZ:Ct.bO x.key key=false)(hn:n+1<=11):
  Calls prog 289 #[↑bb,.int .i64 (11-((n+1:Nat):Int))] w λe w'=>∃s' r,(∀{β:Type} (k:Int->Ct.I β),(Ct.pK x at_ h0 key v gen (n+1) k).head s=(k r).head s')/\1<=r/\Ct.Rm j s'/\e=.returned (.int .i64 r)/\SH B w' (bl bb (i9 S at_ x q h0 key v gen) 259::S.a s'::L):=by
 refine cN func289 ntmps289 h λw h=>?_
 refine fD [1,3,5,7,9,13,15,17,19,21,23,10,24,26,28] (by kernel_rfl) h (.c r0 .n) λw h=>go h λw h=>?_
 refine cs (ca eF rfl) ((sU h0 (11-((n+1:Nat):Int)) _ (by omega)).mono ?_)
 rintro _ _ ⟨rfl,rfl⟩
 refine⟨_,rfl,h.hs (.c r0 .n),?_⟩
 refine cs (ca eF rfl) ((sU x.hash (11-((n+1:Nat):Int)) _ (by omega)).mono ?_)
 rintro _ _ ⟨rfl,rfl⟩
 refine⟨_,rfl,h.hs (.c r0 .n),?_⟩
 refine ef (sg rfl) (h.hs (.c r0 .n))<|ef (sg rfl) (h.hs (.c r0 .n))<|xz<|nx<|sq<|rg<|?_
 refine cS (HG h.to) λq1 w h=>?_
 refine jA h λb2 w h=>?_
 refine qc h (λcJ w h=>?_) λcJ w h=>?_
 have xL:Ct.slice x.hash (11-((n+1:Nat):Int))≠Ct.slice h0 (11-((n+1:Nat):Int)):=λq=>(bne_iff_ne.1 cJ) q.symm
 refine fD [1,3,5,7,9,11,13,15,17,19,21,23,25,27,29,31,33,35,39,41,36,42,44] (by kernel_rfl) h (.c r2 .n) λw h=>go h λw h=>?_
 refine qB (uC _ _ _ h.to) λw h=>?_
 refine cs (ci (S.sA h a3) rfl rfl) ((dY S s ({kind:=4,hash:=h0,key:=key,value:=v}:Ct.Node) {} 0 (SH.fI ({kind:=4,hash:=h0,key:=key,value:=v}:Ct.Node) rfl rfl h.to) hs (Ct.kE _ 4 h0 key v (by decide) hh vE)).mono ?_)
 rintro _ w ⟨rfl,h⟩
 have hs:=hs.alloc (Ct.kE _ 4 h0 key v (by decide) hh vE) 0
 refine⟨_,rfl,h.hs (.c r3 .n),?_⟩
 refine go h λw h=>?_
 refine DD (F:=[bl b2 (aK ({kind:=3}:Ct.Node) q1) 53,bl bb (i9 S at_ x q h0 key v gen) 259]) [(true,[1,3,5,7,9,11,12,15,17]),(false,[19,20])] (by kernel_rfl) h (λw h=>(hC (h.at_ a1) (hC (h.at_ a3) hN))) λw h=>go h λw h=>?_
 refine nP (uQ ({kind:=3}:Ct.Node) _ _ _ _ _ _ h.to (nf3 (Ct.iS 1)) c3 (dI _ _).1 (dI _ _).2 KU (Ct.V5 _)) λq5 w h=>?_
 refine cS (uQ _ _ _ _ _ _ _ h.to (nf3 (Ct.eO (Ct.iS 1) _ _)) (c3i (dI _ _).1 (dI _ _).2 KU) (dI _ _).1 (dI _ _).2 (oF _ _ _) (aJi (dI _ _).1 (dI _ _).2 (dI _ _).1 (dI _ _).2 xL KU)) λq6 w h=>?_
 refine fD [1,3,5,7,9,10,12] (by kernel_rfl) h (.c r5 (.c r4 .n)) λw h=>go h λw h=>?_
 refine cs (ci (S.sA h a3) rfl rfl) ((dY S (s.alloc ({kind:=4,hash:=h0,key:=key,value:=v}:Ct.Node) 0).1 (Ct.aO (Ct.aO ({kind:=3}:Ct.Node) (Ct.slice x.hash (11-((n+1:Nat):Int))) at_).1 (Ct.slice h0 (11-((n+1:Nat):Int))) (s.alloc ({kind:=4,hash:=h0,key:=key,value:=v}:Ct.Node) 0).2).1 q6 0 h.to hs (Ct.eO (Ct.eO (Ct.iS _) (Ct.slice x.hash (11-((n+1:Nat):Int))) at_) (Ct.slice h0 (11-((n+1:Nat):Int))) (s.alloc ({kind:=4,hash:=h0,key:=key,value:=v}:Ct.Node) 0).2)).mono ?_)
 rintro _ w ⟨rfl,h⟩
 have hs:=hs.alloc (Ct.eO (Ct.eO (Ct.iS _) (Ct.slice x.hash (11-((n+1:Nat):Int))) at_) (Ct.slice h0 (11-((n+1:Nat):Int))) (s.alloc ({kind:=4,hash:=h0,key:=key,value:=v}:Ct.Node) 0).2) 0
 refine⟨_,rfl,h.hs (.c r4 (.c r3 .n)),?_⟩
 refine go h λw h=>?_
 refine rz ?_
 exact⟨_,_,λk=>by show (bif _ then _ else _:Ct.I _).head _=_;rw[cJ];rfl,oF _ _ _,hs.less (by omega),rfl,(h.to.fr (.c r1 (.c r0 .n)))⟩
 have El:=eT cJ
 refine go h λw h=>?_
 refine st (bw rfl rfl (iR (c:=(11-(n:Int))) (by omega) (by omega) (by omega)))<|go h λw h=>?_
 refine cl (ca eF rfl) ((N9 (j+2) S at_ x q h0 key v gen bb _ _ _ s (h.fr (.c r2 (.c r2 .n))) (hs.less (by omega)) KU wF hh hxh vE hkx CZ (by omega)).mono ?_)
 rintro _ w ⟨s8,r9,Ju,hr_r9,hs,rfl,h⟩
 refine⟨_,rfl,?_⟩
 refine st (sg rfl)<|xe<|nx<|sq<|?_
 refine go h λw h=>?_
 refine fD [1,3,5,7,9,11,13,15,19,21,23,16,24,26] (by kernel_rfl) h (.c r0 .n) λw h=>go h λw h=>?_
 refine qB (tJ _ h.to) λw h=>?_
 refine cs (ci (S.sA h a1) rfl rfl) ((dY S s8 ({kind:=2,gen:=gen}:Ct.Node) {} r9 (SH.fI ({kind:=2,gen:=gen}:Ct.Node) rfl rfl h.to) hs (Ct.bP _ 2 gen 0 0 0)).mono ?_)
 rintro _ w ⟨rfl,h⟩
 have hs:=hs.alloc (Ct.bP _ 2 gen 0 0 0) r9
 refine⟨_,rfl,h.hs (.c r1 .n),?_⟩
 refine go h λw h=>?_
 refine cS (uQ ({kind:=3}:Ct.Node) _ _ _ _ _ _ h.to (nf3 (Ct.iS 1)) c3 (dI _ _).1 (dI _ _).2 (oF _ _ _) (Ct.V5 _)) λBj w h=>?_
 refine fD [1,3,5,7,9,10,12] (by kernel_rfl) h (.c r3 (.c r3 .n)) λw h=>go h λw h=>?_
 refine cs (ci (S.sA h a2) rfl rfl) ((dY S (s8.alloc ({kind:=2,gen:=gen}:Ct.Node) r9).1 (Ct.aO ({kind:=3}:Ct.Node) (Ct.slice h0 (11-((n+1:Nat):Int))) (s8.alloc ({kind:=2,gen:=gen}:Ct.Node) r9).2).1 Bj 0 h.to hs (Ct.eO (Ct.iS _) (Ct.slice h0 (11-((n+1:Nat):Int))) (s8.alloc ({kind:=2,gen:=gen}:Ct.Node) r9).2)).mono ?_)
 rintro _ w ⟨rfl,h⟩
 have hs:=hs.alloc (Ct.eO (Ct.iS _) (Ct.slice h0 (11-((n+1:Nat):Int))) (s8.alloc ({kind:=2,gen:=gen}:Ct.Node) r9).2) 0
 refine⟨_,rfl,h.hs (.c r2 (.c r2 .n)),?_⟩
 refine go h λw h=>?_
 refine rz ?_
 exact⟨_,_,λk=>by show (bif _ then _ else _:Ct.I _).head _=_;rw[cJ];exact Ju _,oF _ _ _,hs.less (by omega),rfl,(h.to.fr (.c r1 (.c r0 .n)))⟩
theorem DM:∀n,j1 n
 |0=>λj S at_ x q h0 key v gen bb B w L s h hs a1 a2 a3 a4 a5 a6 a7 _=>VL j S at_ x q h0 key v gen bb s h hs a1 a2 a3 a4 a5 a6 a7
 |n+1=>λj S at_ x q h0 key v gen bb B w L s h hs a1 a2 a3 a4 a5 a6 a7 hn=>VV n (DM n) j S at_ x q h0 key v gen bb s h hs a1 a2 a3 a4 a5 a6 a7 hn
theorem bnI{n:Nat}{e:Tm}{d:Option Tmp}{ty:TypeId}{ps:String}{af:Array Edge}{g:Option (Nat×Bool)}{w:World}{x y:Operand}{t:TypeId}{u:Value}(hx:ev n e x=some (.iface t u))(hy:ev n e y=some .nilIface):Y prog n e ⟨d,.binOp .eql 85 x y 85,ty,ps,af,g⟩ w (.bool false) w:=
 bc hx hy (by
  have h:(binOp BinOp.eql 85 (.iface t u) .nilIface).run prog w=.ok (.bool false) w:=by kernel_rfl
  simp[eqGuard,h])
theorem tM{β:Type}{x:Ct.Node}{at_:Int}{h0:Nat}{key:ByteArray}{v:Nat}{level gen:Int}{k:Int->Int->Ct.I β}{s:Ct.St}(hn:s.node at_=x)(h1:(decide (level<0)||(decide (level>11)||decide (gen<1)))=false):(Ct.uW at_ h0 key v level gen k).head s=((bif x.kind != 4||(decide (64<key.size)||Ct.bO key x.key)then k 0 1 else bif decide ((Ct.aJ x.hash h0:Int)<level)then k 0 1 else Ct.pK x at_ h0 key v gen (11-level).toNat λr=>k r 0)).head s:=by
 unfold Ct.uW;rw[h1];simp only[fN];subst hn;rfl
theorem aA1(j:Nat)(S:fX)(at_:Int)(x:Ct.Node)(q:Lq)(h0:Nat)(key:ByteArray)(v:Nat)(gen:Int)(bb:Nat)(level:Int){s:Ct.St}(h:SH B w (bl bb (i9 S at_ x q h0 key v gen) 259::S.a s::L))(hs:Ct.Rm (j+25) s)(KU:1<=at_)(wF:1<=gen)(hh:h0<18446744073709551616)(hxh:x.hash<18446744073709551616)(vE:key.size<=64)(hkx:x.key.size<=64)(CZ:Ct.bO x.key key=false)(l0:0<=level)(l1:level<=11):
  Calls prog 289 #[↑bb,↑level] w λe w'=>∃s' r,(∀{β:Type} (k:Int->Ct.I β),(Ct.pK x at_ h0 key v gen (11-level).toNat k).head s=(k r).head s')/\1<=r/\Ct.Rm j s'/\e=.returned (.int .i64 r)/\SH B w' (bl bb (i9 S at_ x q h0 key v gen) 259::S.a s'::L):=by
 obtain⟨n,hn,rfl⟩:∃n:Nat,n<=11/\level=11-(n:Int):=⟨(11-level).toNat,by omega,by omega⟩
 rw[show (11-(11-(n:Int))).toNat=n by omega]
 exact DM n j S at_ x q h0 key v gen bb B w L s h (hs.less (by omega)) KU wF hh hxh vE hkx CZ hn
theorem WR{a b:ByteArray}(h:(a.toList==b.toList)=false):Ct.bO b a=false:=by
 cases hb:Ct.bO b a with
 |false=>rfl
 |true=>rw[mJ hb]at h;simp at h
section
attribute [local semireducible] gA wpS Go.E.X XS C kV lL fin Y U F Ca kU bl rb aV bS ex ce pu sK gK bK zK gG fE cZ gY mA rQ
attribute [local irreducible] gA wpS
variable{B w:World}{L:List As}
theorem XH(j:Nat)(S:fX)(at_:Int)(h0:Nat)(key:ByteArray)(v:Nat)(level gen:Int)(s:Ct.St)(h:SH B w (S.a s::L))(hs:Ct.Rm (j+25) s)(KU:1<=at_)(hh:h0<18446744073709551616)(hkz:key.size<=9223372036854775807):
  Calls prog 271 #[S.v,↑at_,.int .u64 (h0:Int),↑key,.int .u64 (v:Int),↑level,↑gen] w λe w'=>∃s' r e',(∀{β:Type} (k:Int->Int->Ct.I β),(Ct.uW at_ h0 key v level gen k).head s=(k r e').head s')/\(e'=0->1<=r)/\Ct.Rm j s'/\e=.returned (.tuple #[.int .i64 r,.int .i64 e'])/\SH B w' (S.a s'::L):=by
 refine Kk (args:=[_,_,_,_,_,_,_]) func271 rfl ntmps271 rfl ?_
 refine sq<|rg<|st (sg rfl)<|st (sg rfl)<|xe<|nx<|sq<|sq<|rg<|st (mv rfl)<|st (bi rfl rfl rfl)<|st (mv rfl)<|?_
 rcases dQ (decide ((level:Int)<0))with dF|dF
 ·have xZ:=dH dF
  refine gF rfl rfl dF<|gF rfl rfl dF<|st (pT rfl dF rfl)<|st (mv rfl)<|gF rfl rfl rfl<|gF rfl rfl rfl<|st (pT rfl rfl rfl)<|xe<|nx<|cT rfl<|sq<|rg<|st (sg rfl)<|st (sg rfl)<|xe<|nx<|rt<|tr<|?_
  refine rr (iG results271 rfl rfl)<|?_
  exact⟨_,_,_,λk=>(by unfold Ct.uW;rw[show (decide (level<0)||(decide (level>11)||decide (gen<1)))=true from(by simp only[dF,Eb,Gs,Ja,Io])];rfl),(λq=>absurd q (by decide)),hs.less (by omega),rfl,h⟩
 ·have Lt:=dR dF
  refine gT rfl rfl dF<|st (mv rfl)<|gT rfl rfl dF<|st (bi rfl rfl rfl)<|st (pF rfl dF rfl)<|st (mv rfl)<|?_
  rcases dQ (decide ((level:Int)>11))with eB|eB
  ·have Vu:=dH eB
   refine gF rfl rfl eB<|gF rfl rfl eB<|st (pT rfl eB rfl)<|xe<|nx<|cT rfl<|sq<|rg<|st (sg rfl)<|st (sg rfl)<|xe<|nx<|rt<|tr<|?_
   refine rr (iG results271 rfl rfl)<|?_
   exact⟨_,_,_,λk=>(by unfold Ct.uW;rw[show (decide (level<0)||(decide (level>11)||decide (gen<1)))=true from(by simp only[dF,eB,Eb,Gs,Ja,Io])];rfl),(λq=>absurd q (by decide)),hs.less (by omega),rfl,h⟩
  ·have CX:=dR eB
   refine gT rfl rfl eB<|st (mv rfl)<|gT rfl rfl eB<|st (bi rfl rfl rfl)<|st (pF rfl eB rfl)<|xe<|nx<|?_
   rcases dQ (decide ((gen:Int)<1))with fF|fF
   ·have Ua:=dH fF
    refine ct rfl fF<|sq<|rg<|st (sg rfl)<|st (sg rfl)<|xe<|nx<|rt<|tr<|?_
    refine rr (iG results271 rfl rfl)<|?_
    exact⟨_,_,_,λk=>(by unfold Ct.uW;rw[show (decide (level<0)||(decide (level>11)||decide (gen<1)))=true from(by simp only[dF,eB,fF,Eb,Gs,Ja,Io])];rfl),(λq=>absurd q (by decide)),hs.less (by omega),rfl,h⟩
   ·have CY:=dR fF
    refine cf rfl fF<|sk<|nx<|sq<|sq<|rg<|st (mv rfl)<|st (bnI rfl rfl)<|xe<|nx<|cF rfl<|sk<|nx<|sq<|rg<|st (mv rfl)<|st (mv rfl)<|cl (ci (S.sN h a0) rfl rfl) ((dK S s at_ (h.fr (.c r0 .n)) hs).mono ?_)
    rintro _ w ⟨q,rfl,h⟩
    refine⟨_,rfl,?_⟩
    refine sf (al h GY)<|?_
    rintro _ w ⟨Uf,rfl,h⟩
    refine sf (so h rfl rfl rfl xS rfl (.r (.r (.r (.r (.r (.r (.r (.r (.r (.r (.r (.r (.r (.r .d)))))))))))))) u0)<|?_
    rintro _ w h
    refine xe<|nx<|sq<|sq<|rg<|st (fa uH rfl)<|st (ld jZ rfl (h.c a0 rfl))<|st (bi rfl rfl rfl)<|st (mv rfl)<|?_
    rcases dQ (((s.node at_).kind:Int) != 4)with fO|fO
    ·have N2:=bne_iff_ne.1 fO
     refine gF rfl rfl fO<|gF rfl rfl fO<|gF rfl rfl fO<|st (pT rfl fO rfl)<|st (mv rfl)<|gF rfl rfl rfl<|gF rfl rfl rfl<|gF rfl rfl rfl<|gF rfl rfl rfl<|st (pT rfl rfl rfl)<|xe<|nx<|cT rfl<|sq<|rg<|st (sg rfl)<|st (sg rfl)<|xe<|nx<|rt<|tr<|?_
     refine rr (iG results271 rfl rfl)<|?_
     have L6:(decide (level<0)||(decide (level>11)||decide (gen<1)))=false:=(by simp only[dF,eB,fF,Eb,Gs,Ja,Io])
     exact⟨_,_,_,λk=>(by rw[tM rfl L6,show ((s.node at_).kind != 4||(decide (64<key.size)||Ct.bO key (s.node at_).key))=true from(by simp only[Ct.bO,fO,Eb,Gs,Ja,Io])];rfl),(λq=>absurd q (by decide)),hs.less (by omega),rfl,h.drop.drop⟩
    ·have CW:=eT fO
     refine gT rfl rfl fO<|st (mv rfl)<|gT rfl rfl fO<|st (A9 AE rfl rfl)<|gT rfl rfl fO<|st (bi rfl rfl rfl)<|st (pF rfl fO rfl)<|st (mv rfl)<|?_
     rcases dQ (decide (((key.size:Int):Int)>64))with jI|jI
     ·have JW:=dH jI
      refine gF rfl rfl jI<|gF rfl rfl jI<|gF rfl rfl jI<|gF rfl rfl jI<|st (pT rfl jI rfl)<|xe<|nx<|cT rfl<|sq<|rg<|st (sg rfl)<|st (sg rfl)<|xe<|nx<|rt<|tr<|?_
      refine rr (iG results271 rfl rfl)<|?_
      have L6:(decide (level<0)||(decide (level>11)||decide (gen<1)))=false:=(by simp only[dF,eB,fF,Eb,Gs,Ja,Io])
      have hks:decide (64<key.size)=true:=gM (by have:=dH jI;omega)
      exact⟨_,_,_,λk=>(by rw[tM rfl L6,show ((s.node at_).kind != 4||(decide (64<key.size)||Ct.bO key (s.node at_).key))=true from(by simp only[Ct.bO,fO,hks,Eb,Gs,Ja,Io])];rfl),(λq=>absurd q (by decide)),hs.less (by omega),rfl,h.drop.drop⟩
     ·have aFg:=dR jI
      refine gT rfl rfl jI<|st (mv rfl)<|gT rfl rfl jI<|st (fa Fu rfl)<|gT rfl rfl jI<|st (ld zH rfl (h.c a0 rfl))<|gT rfl rfl jI<|st (sb rfl rfl rfl)<|st (pF rfl jI rfl)<|xe<|nx<|?_
      rcases dQ (key.toList==(s.node at_).key.toList)with jJ|jJ
      ·refine ct rfl jJ<|sq<|rg<|st (sg rfl)<|st (sg rfl)<|xe<|nx<|rt<|tr<|?_
       refine rr (iG results271 rfl rfl)<|?_
       have L6:(decide (level<0)||(decide (level>11)||decide (gen<1)))=false:=(by simp only[dF,eB,fF,Eb,Gs,Ja,Io])
       have hks:decide (64<key.size)=false:=cI (by have:=dR jI;omega)
       exact⟨_,_,_,λk=>(by rw[tM rfl L6,show ((s.node at_).kind != 4||(decide (64<key.size)||Ct.bO key (s.node at_).key))=true from(by simp only[Ct.bO,fO,hks,jJ,Eb,Gs,Ja,Io])];rfl),(λq=>absurd q (by decide)),hs.less (by omega),rfl,h.drop.drop⟩
      ·refine cf rfl jJ<|sk<|nx<|sq<|sq<|?_
       have hxh:=(hs.node at_).1.2.2.2.1
       refine rg<|st (fa Zv rfl)<|st (ld qD rfl (h.c a0 rfl))<|st (mv rfl)<|cl (ca eF rfl) ((NP (s.node at_).hash h0 _ (by omega) (by omega)).mono ?_)
       rintro _ _ ⟨rfl,rfl⟩
       refine⟨_,rfl,?_⟩
       refine st (mv rfl)<|st (bi rfl rfl rfl)<|xe<|nx<|?_
       rcases dQ (decide ((((Ct.aJ (s.node at_).hash h0:Nat):Int):Int)<level))with iM|iM
       ·have YK:=dH iM
        refine ct rfl iM<|sq<|rg<|st (sg rfl)<|st (sg rfl)<|xe<|nx<|rt<|tr<|?_
        refine rr (iG results271 rfl rfl)<|?_
        have L6:(decide (level<0)||(decide (level>11)||decide (gen<1)))=false:=(by simp only[dF,eB,fF,Eb,Gs,Ja,Io])
        have hks:decide (64<key.size)=false:=cI (by have:=dR jI;omega)
        have P8:((s.node at_).kind != 4||(decide (64<key.size)||Ct.bO key (s.node at_).key))=false:=(by simp only[Ct.bO,fO,hks,jJ,Eb,Gs,Ja,Io])
        exact⟨_,_,_,λk=>(by rw[tM rfl L6,P8];show (bif _ then _ else _:Ct.I _).head _=_;rw[iM];rfl),(λq=>absurd q (by decide)),hs.less (by omega),rfl,h.drop.drop⟩
       ·have QM:=dR iM
        refine cf rfl iM<|sk<|nx<|sq<|?_
        have CZ:Ct.bO (s.node at_).key key=false:=WR jJ
        refine rg<|st (mv rfl)<|st (mv rfl)<|st (kB rfl (eH (h.b a0)) iK)<|st (mv rfl)<|st (mv rfl)<|st (mv rfl)<|st (bd [↑key,.int .u64 (v:Int)] f9 rfl (by kernel_rfl))<|st (mv rfl)<|st (bd [S.v,↑at_,.int .i64 (s.node at_).kind,.int .i64 (s.node at_).gen,.int .i64 (s.node at_).main,.int .u64 (((s.node at_).aC:Nat):Int),.slice q.pb (s.node at_).aA.length q.cb,.int .u64 (((s.node at_).hash:Nat):Int),.string (s.node at_).key,.int .u64 (((s.node at_).value:Nat):Int),.slice q.pp (s.node at_).aH.length q.cp,.int .i64 (s.node at_).prev,.int .i64 (s.node at_).dO,.int .i64 (s.node at_).aS,.int .i64 (s.node at_).new,.int .i64 (s.node at_).status,.int .u64 (h0:Int),↑key,.int .u64 (v:Int),↑gen] aEg rfl (by kernel_rfl))<|sf (al h aEe)<|?_
        rintro _ w ⟨b22,rfl,h⟩
        refine sf (so h rfl rfl rfl aEi rfl (.r (.r (.r (.r (.r (.r (.r (.r (.r (.r (.r (.r (.r (.r (.r (.r (.r (.r (.r (.r .d)))))))))))))))))))) u0)<|?_
        rintro _ w h
        refine xe<|nx<|sq<|rg<|st (mv rfl)<|?_
        have h:SH B w (bl b22 (i9 S at_ (s.node at_) q h0 key v gen) 259::bl Uf (aK (s.node at_) q) 53::aL (s.node at_) q::S.a s::L):=h.fr (.c r0 .n)
        refine cl (ca eF rfl) ((aA1 j S at_ (s.node at_) q h0 key v gen b22 level (h.fr (.c r0 (.c r2 .n))) (hs.less (by omega)) KU (by omega) hh (hs.node at_).1.2.2.2.1 (by omega) (hs.node at_).2 CZ (by omega) (by omega)).mono ?_)
        rintro _ w ⟨s23,r24,aQ3,hr_r24,hs,rfl,h⟩
        refine⟨_,rfl,?_⟩
        refine st (sg rfl)<|st (sg rfl)<|xe<|nx<|rt<|?_
        refine rr (iG results271 rfl rfl)<|?_
        have L6:(decide (level<0)||(decide (level>11)||decide (gen<1)))=false:=(by simp only[dF,eB,fF,Eb,Gs,Ja,Io])
        have hks:decide (64<key.size)=false:=cI (by have:=dR jI;omega)
        have P8:((s.node at_).kind != 4||(decide (64<key.size)||Ct.bO key (s.node at_).key))=false:=(by simp only[Ct.bO,fO,hks,jJ,Eb,Gs,Ja,Io])
        exact⟨_,_,_,λk=>(by rw[tM rfl L6,P8];show (bif _ then _ else _:Ct.I _).head _=_;rw[iM];exact aQ3 _),(λ_=>hr_r24),hs,rfl,(h.fr (.c r0 (.c r1 (.c r1 .n)))).drop.drop.drop⟩
end
end Go.Q9
end
section
namespace Go.Q9
open Go.Proofs.Tryz
open Go.E
end Go.Q9
end
section
namespace Go.Q9
open Go.Proofs.Tryz
open Go.RowKit Go.E Go.Ct
attribute [local irreducible] gA wpS Go.E.X XS C kV lL fin Y U F Ca kU bl rb aV bS ex ce pu sK gK bK zK gG fE cZ gY mA
def ZA(n:Ct.Node)(i:Int):Bool:=n.oT&&(decide (0<=i)&&decide (i<64))
theorem RR{n:Ct.Node}{i:Int}(h:ZA n i=true):n.oT=true/\0<=i/\i<64:=by unfold ZA at h;simpa using h
variable{B w:World}{L:List As}
theorem Wc(n:Ct.Node)(q:Lq)(i:Int)(h:SH B w (aL n q::L))(nf:NF n):
  Calls prog 259 #[.agg (aK n q).toArray,↑i] w λe w'=>e=.returned (.bool (ZA n i))/\SH B w' (aL n q::L):=by
 have nf_br:=nf.br
 have nf_pr:=nf.pr
 have nf_bm:=nf.bm
 have nf_hs:=nf.hs
 have nf_ks:=nf.ks
 refine cN func259 ntmps259 h λw h=>?_
 refine jX h λb1 w h=>?_
 refine bQ (xF _ _ h.to nf) λw h=>?_
 refine qg h (λcO w h=>?_) λcO w h=>?_
 refine qg h (λcJ w h=>?_) λcJ w h=>?_
 have Tv:=dH cJ
 refine go h λw h=>?_
 exact rz ⟨by unfold ZA;rw[cO,show decide (0<=i)=true from gM (by have:=dH cJ;omega),Bool.true_and,Bool.true_and],h.to⟩
 have Vu:=dR cJ
 refine go h λw h=>?_
 exact rz ⟨by unfold ZA;rw[show decide (0<=i)=false from cI (by have:=dR cJ;omega),Bool.false_and,Bool.and_false],h.to⟩
 refine rz ?_
 exact⟨by unfold ZA;rw[cO];rfl,h.to⟩
theorem kM{n:Ct.Node}{i r:Int}(hn:(Ct.aO n i r).2=false):Ct.aO n i r=({},false):=by
 unfold Ct.aO at hn ⊢;split at hn
 ·rename_i h;rw[if_pos h]
 ·cases hn
theorem BR{n:Ct.Node}{i r:Int}(hc:ZA n i=true)(hr:decide ((r:Int)<1)=false)(hn:(Ct.aO n i r).2=false):Bm.has n.aC i=true:=by
 obtain⟨h1,h2,h3⟩:=RR hc
 have hr:=dR hr
 cases hb:Bm.has n.aC i with
 |true=>rfl
 |false=>
  unfold Ct.aO at hn;rw[if_neg (by simp[h1,hb];omega)]at hn;cases hn
theorem Ve{n:Ct.Node}{i r:Int}(hn:(Ct.aO n i r).2=true):n.oT=true/\0<=i/\i<64/\1<=r/\Bm.has n.aC i=false:=by
 unfold Ct.aO at hn;split at hn
 ·cases hn
 ·rename_i h
  refine⟨by cases hc:n.oT<;>simp_all,by omega,by omega,by omega,by cases hb:Bm.has n.aC i<;>simp_all⟩
theorem IU(n:Ct.Node)(q:Lq)(i r:Int)(h:SH B w (aL n q::L))(nf:NF n)(hn:(Ct.aO n i r).2=false):
  Calls prog 270 #[.agg (aK n q).toArray,↑i,↑r] w λe w'=>∃q',e=.returned (.tuple #[.agg (aK (Ct.aO n i r).1 q').toArray,.bool (Ct.aO n i r).2])/\SH B w' (aL (Ct.aO n i r).1 q'::aL n q::L):=by
 have nf_br:=nf.br
 have nf_pr:=nf.pr
 have nf_bm:=nf.bm
 have nf_hs:=nf.hs
 have nf_ks:=nf.ks
 refine cN func270 ntmps270 h λw h=>?_
 refine jX h λb1 w h=>?_
 refine jA h λb2 w h=>?_
 refine bQ (Wc _ _ _ h.to nf) λw h=>?_
 refine qg h (λcJ w h=>?_) λcJ w h=>?_
 have eB:(ZA n i)=false:=(gZ _).mp cJ
 refine go h λw h=>?_
 exact rr (dS rfl rfl (h.b a1) Row.h rfl)<|⟨{},by rw[kM hn];rfl,by rw[kM hn];exact SH.fI _ rfl rfl h.to⟩
 have dM:(ZA n i)=true:=(hU _).mp cJ
 refine go h λw h=>?_
 refine qg h (λdJ w h=>?_) λdJ w h=>?_
 have El:=dH dJ
 refine go h λw h=>?_
 exact rr (dS rfl rfl (h.b a1) Row.h rfl)<|⟨{},by rw[kM hn];rfl,by rw[kM hn];exact SH.fI _ rfl rfl h.to⟩
 have Ua:=dR dJ
 refine go h λw h=>?_
 refine cl (ca eF rfl) ((Ep n.aC i _ (by omega)).mono ?_)
 rintro _ _ ⟨rfl,rfl⟩
 refine⟨_,rfl,?_⟩
 refine st (pF rfl dJ rfl)<|xe<|nx<|?_
 refine go h λw h=>?_
 refine ct rfl (BR dM dJ hn)<|go h λw h=>?_
 exact rr (dS rfl rfl (h.b a1) Row.h rfl)<|⟨{},by rw[kM hn];rfl,by rw[kM hn];exact SH.fI _ rfl rfl h.to⟩
theorem Vg(n:Ct.Node)(q:Lq)(i r:Int)(h:SH B w (aL n q::L))(nf:NF n):
  Calls prog 270 #[.agg (aK n q).toArray,↑i,↑r] w λe w'=>∃q',e=.returned (.tuple #[.agg (aK (Ct.aO n i r).1 q').toArray,.bool (Ct.aO n i r).2])/\SH B w' (aL (Ct.aO n i r).1 q'::aL n q::L):=by
 cases hn:(Ct.aO n i r).2 with
 |false=>rw[<- hn];exact IU n q i r h nf hn
 |true=>
  obtain⟨h1,h2,h3,hr,hh⟩:=Ve hn
  exact uQ n q.pb q.cb q.pp q.cp i r h nf h1 h2 h3 hr hh
theorem lQ{n:Ct.Node}{i r:Int}(hn:(Ct.aM n i r).2=false):Ct.aM n i r=({},false):=by
 unfold Ct.aM at hn ⊢;split at hn
 ·rename_i h;rw[if_pos h]
 ·cases hn
theorem EC{n:Ct.Node}{i r:Int}(hc:ZA n i=true)(hr:decide ((r:Int)<1)=false)(hn:(Ct.aM n i r).2=false):Bm.has n.aC i=false:=by
 obtain⟨h1,h2,h3⟩:=RR hc
 have hr:=dR hr
 cases hb:Bm.has n.aC i with
 |false=>rfl
 |true=>
  unfold Ct.aM at hn;rw[if_neg (by simp[h1,hb];omega)]at hn;cases hn
theorem Za{n:Ct.Node}{i r:Int}(hn:(Ct.aM n i r).2=true):n.oT=true/\0<=i/\i<64/\1<=r/\Bm.has n.aC i=true:=by
 unfold Ct.aM at hn;split at hn
 ·cases hn
 ·rename_i h
  refine⟨by cases hc:n.oT<;>simp_all,by omega,by omega,by omega,by cases hb:Bm.has n.aC i<;>simp_all⟩
theorem MV(n:Ct.Node)(q:Lq)(i r:Int)(h:SH B w (aL n q::L))(nf:NF n)(hn:(Ct.aM n i r).2=false):
  Calls prog 231 #[.agg (aK n q).toArray,↑i,↑r] w λe w'=>∃q',e=.returned (.tuple #[.agg (aK (Ct.aM n i r).1 q').toArray,.bool (Ct.aM n i r).2])/\SH B w' (aL (Ct.aM n i r).1 q'::aL n q::L):=by
 have nf_br:=nf.br
 have nf_pr:=nf.pr
 have nf_bm:=nf.bm
 have nf_hs:=nf.hs
 have nf_ks:=nf.ks
 refine cN func231 ntmps231 h λw h=>?_
 refine jX h λb1 w h=>?_
 refine jA h λb2 w h=>?_
 refine bQ (Wc _ _ _ h.to nf) λw h=>?_
 refine qg h (λcJ w h=>?_) λcJ w h=>?_
 have eB:(ZA n i)=false:=(gZ _).mp cJ
 refine go h λw h=>?_
 exact rr (dS rfl rfl (h.b a1) Row.h rfl)<|⟨{},by rw[lQ hn];rfl,by rw[lQ hn];exact SH.fI _ rfl rfl h.to⟩
 have dM:(ZA n i)=true:=(hU _).mp cJ
 refine go h λw h=>?_
 refine qg h (λdJ w h=>?_) λdJ w h=>?_
 have El:=dH dJ
 refine go h λw h=>?_
 exact rr (dS rfl rfl (h.b a1) Row.h rfl)<|⟨{},by rw[lQ hn];rfl,by rw[lQ hn];exact SH.fI _ rfl rfl h.to⟩
 have Ua:=dR dJ
 refine go h λw h=>?_
 refine cl (ca eF rfl) ((Ep n.aC i _ (by omega)).mono ?_)
 rintro _ _ ⟨rfl,rfl⟩
 refine⟨_,rfl,?_⟩
 refine gT rfl rfl dJ<|st (nt rfl)<|st (pF rfl dJ rfl)<|xe<|nx<|?_
 refine go h λw h=>?_
 refine ct rfl (wY (EC dM dJ hn))<|go h λw h=>?_
 exact rr (dS rfl rfl (h.b a1) Row.h rfl)<|⟨{},by rw[lQ hn];rfl,by rw[lQ hn];exact SH.fI _ rfl rfl h.to⟩
theorem iL(n:Ct.Node)(q:Lq)(i r:Int)(h:SH B w (aL n q::L))(nf:NF n):
  Calls prog 231 #[.agg (aK n q).toArray,↑i,↑r] w λe w'=>∃q',e=.returned (.tuple #[.agg (aK (Ct.aM n i r).1 q').toArray,.bool (Ct.aM n i r).2])/\SH B w' (aL (Ct.aM n i r).1 q'::aL n q::L):=by
 cases hn:(Ct.aM n i r).2 with
 |false=>rw[<- hn];exact MV n q i r h nf hn
 |true=>
  obtain⟨h1,h2,h3,hr,hh⟩:=Za hn
  exact PM n q.pb q.cb q.pp q.cp i r h nf h1 h2 h3 hr hh
end Go.Q9
end
section
namespace Go.Q9
open Go.Proofs.Tryz
open Go.E
theorem aNp:zc prog 3=some [.int .i64 0]:=by kernel_rfl
end Go.Q9
end
