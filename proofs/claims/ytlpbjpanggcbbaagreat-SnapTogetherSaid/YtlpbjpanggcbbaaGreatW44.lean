/- Parts of a proof: Du, Ayv, Pz5, Ayt. -/
import Derived.Test.YtlpbjpanggcbbaaGreatW43
set_option linter.unusedVariables false
set_option linter.unusedSimpArgs false
set_option maxRecDepth 100000
set_option maxHeartbeats 4000000
section
namespace Go.Q9
open Go.Proofs.Tryz
open Go.RowKit Go.E Go.Ct
attribute [local irreducible] gB wpS Go.E.X XS C jU kP fin Y U F Ca jT bl rb aU bV ex ce pu sK gK bK zK gM fO dH gP nE rD
def MX(S:dN)(at_:Int)(x:Ct.Node)(q:Lq)(h0:Nat)(key:ByteArray)(v:Nat)(gen:Int):List Value:=[S.v,↑at_,↑x.kind,↑x.gen,↑x.main,.int .u64 (x.aD:Int),.slice q.pb x.aA.length q.cb,.int .u64 (x.hash:Int),↑x.key,.int .u64 (x.value:Int),.slice q.pp x.aF.length q.cp,↑x.prev,↑x.dC,↑x.aK,↑x.new,↑x.status,.int .u64 (h0:Int),↑key,.int .u64 (v:Int),↑gen]
variable{B w:World}{L:List As}
theorem d9(a b:Ct.bN)(lb:Nat)(h:SH B w (bV 2 (.slice (some ⟨lb,0,none⟩) 2 2) 2 ([a,b].flatMap aR)::L))(hne:Ct.bR a.key b.key=false):
  Calls prog 306 #[.slice (some ⟨lb,0,none⟩) 2 2] w λe w'=>∃p' c',e=.returned (.slice p' (Ct.gG a b).length c')/\SH B w' (bV 2 (.slice p' (Ct.gG a b).length c') (Ct.gG a b).length ((Ct.gG a b).flatMap aR)::L):=by
 rw[show (Ct.gG a b).length=2 by unfold Ct.gG;split<;>rfl];exact TP a b lb h hne
theorem MM(a b:Ct.bN):(Ct.gG a b).length=2:=by unfold Ct.gG;split<;>rfl
theorem Vz(h:SH B w L):Calls prog 136 #[] w λe w'=>∃q,e=.returned (.agg (aL ({kind:=3}:Ct.Node) q).toArray)/\SH B w' (aM ({kind:=3}:Ct.Node) q::L):=by
 refine(Jg h).mono ?_
 rintro e w' ⟨rfl,h⟩
 exact⟨{},rfl,SH.eE _ rfl rfl h⟩
theorem n7{n:Ct.Node}(h:n.Fit 1):Ct.NF n:=h.nf (by decide)
theorem c3:({kind:=3}:Ct.Node).lO=true:=by decide+kernel
theorem F8{i a:Int}(h0:0<=i)(h1:i<64)(ha:1<=a):(Ct.aS {kind:=3} i a).1.lO=true:=by
 have f:=n7 (Ct.eB (Ct.fY 1) i a)
 rw[Ct.Ao h0 h1 ha]at f ⊢
 exact Ct.Pb rfl (f.v3 rfl)
theorem i6{i a k:Int}(h0:0<=i)(h1:i<64)(k0:0<=k)(k1:k<64)(hne:i≠k)(ha:1<=a):Bm.has (Ct.aS {kind:=3} i a).1.aD k=false:=by
 rcases Ct.Vv (Ct.DX h0 h1 k0 k1 hne ha (Int.le_refl 1)).2 with h|h
 ·rw[F8 h0 h1 ha]at h;cases h
 ·exact h
theorem lY(s:Ct.St)(n:Ct.Node)(i:Int):1<=(s.alloc n i).2:=by unfold Ct.St.alloc;dsimp only;omega
theorem GI{L h0:Nat}{x:Ct.Node}{key:ByteArray}{v:Nat}(hh:h0<18446744073709551616)(hkx:x.key.size<=64)(hky:key.size<=64)(hne:Ct.bR x.key key=false):Ct.Node.Fit (L+1) {kind:=6,hash:=h0,aF:=Ct.gG ⟨x.key,x.value⟩ ⟨key,v⟩}:=by
 have hl:(Ct.gG (⟨x.key,x.value⟩:Ct.bN) ⟨key,v⟩).length=2:=by unfold Ct.gG;split<;>rfl
 refine Ct.Yz _ _ _ hh (by omega) (by omega) (Ct.uX _ _ hne) λq hq=>?_
 unfold Ct.gG at hq
 split at hq<;>· simp at hq;rcases hq with rfl|rfl<;>assumption
def OL(n:Nat):Prop:=∀(j:Nat) (S:dN) (at_:Int) (x:Ct.Node) (q:Lq) (h0:Nat) (key:ByteArray) (v:Nat) (gen:Int) (bb:Nat) (B w:World) (L:List As) (s:Ct.St),SH B w (bl bb (MX S at_ x q h0 key v gen) 272::S.a s::L)->Ct.Rm (j+2*n+3) s->
 1<=at_->1<=gen->h0<18446744073709551616->x.hash<18446744073709551616->key.size<=64->x.key.size<=64->Ct.bR x.key key=false->n<=11->Calls prog 300 #[↑bb,.int .i64 (11-(n:Int))] w λe w'=>∃s' r,(∀{β:Type} (k:Int->Ct.I β),(Ct.uY x at_ h0 key v gen n k).head s=(k r).head s')/\1<=r/\Ct.Rm j s'/\e=.returned (.int .i64 r)/\SH B w' (bl bb (MX S at_ x q h0 key v gen) 272::S.a s'::L)
theorem JC(j:Nat)(S:dN)(at_:Int)(x:Ct.Node)(q:Lq)(h0:Nat)(key:ByteArray)(v:Nat)(gen:Int)(bb:Nat)(s:Ct.St)(h:SH B w (bl bb (MX S at_ x q h0 key v gen) 272::S.a s::L))(hs:Ct.Rm (j+2*0+3) s)(hat:1<=at_)(hgen:1<=gen)(hh:h0<18446744073709551616)(hxh:x.hash<18446744073709551616)(hky:key.size<=64)(hkx:x.key.size<=64)(hne0:Ct.bR x.key key=false):
  Calls prog 300 #[↑bb,.int .i64 (11-((0:Nat):Int))] w λe w'=>∃s' r,(∀{β:Type} (k:Int->Ct.I β),(Ct.uY x at_ h0 key v gen 0 k).head s=(k r).head s')/\1<=r/\Ct.Rm j s'/\e=.returned (.int .i64 r)/\SH B w' (bl bb (MX S at_ x q h0 key v gen) 272::S.a s'::L):=by
 refine bZ func300 ntmps300 h λw h=>?_
 refine go h λw h=>?_
 refine dZ [1,3,5,7,9,11,13,15,17,19,21,23,25,27,29,30,32,34] (by kernel_rfl) h (.c r0 .n) λw h=>go h λw h=>?_
 refine tk (λW H=>gJ (cs:=[↑key,.int .u64 (v:Int)]) rfl (eP (H.b a0) 17 rfl) Row.h)<|go h λw h=>?_
 refine ff (bu [↑x.key,.int .u64 (x.value:Int),↑key,.int .u64 (v:Int)] h fR.h Ss.h rfl (by kernel_rfl) rfl (by decide) (by decide)) ?_
 rintro _ w ⟨b1,rfl,h⟩
 refine gz h λw h=>?_
 have h:SH B w (bV 2 (.slice (some ⟨b1,0,none⟩) 2 2) 2 (([(⟨x.key,x.value⟩:Ct.bN),⟨key,v⟩]).flatMap aR)::bl bb (MX S at_ x q h0 key v gen) 272::S.a s::L):=(h.fr (.c r0 .n)).fz
 refine AN (d9 ⟨x.key,x.value⟩ ⟨key,v⟩ _ h.to hne0) λqp2 cp3 w h=>?_
 refine dZ [1,3,5,7,9,11,13,15,17,21,23,18,24,26] (by kernel_rfl) h (.c r1 .n) λw h=>go h λw h=>?_
 refine lH (Mu _ _ _ _ h.to (by rw[MM];decide)) λq4 w h=>?_
 refine cs (ci (S.sA h a2) rfl rfl) ((cQ S s ({kind:=6,hash:=h0,aF:=Ct.gG ⟨x.key,x.value⟩ ⟨key,v⟩}:Ct.Node) q4 0 h.to hs (GI (x:=x) (v:=v) hh hkx hky hne0)).mono ?_)
 rintro _ w ⟨rfl,h⟩
 have hs:=hs.alloc (GI (x:=x) (v:=v) hh hkx hky hne0) 0
 refine⟨_,rfl,h.hs (.c r1 .n),?_⟩
 refine go h λw h=>?_
 refine rz ?_
 exact⟨_,_,λk=>rfl,lY _ _ _,hs.less (by omega),rfl,h.to⟩
theorem IX(n:Nat)(hrec:OL n)(j:Nat)(S:dN)(at_:Int)(x:Ct.Node)(q:Lq)(h0:Nat)(key:ByteArray)(v:Nat)(gen:Int)(bb:Nat)(s:Ct.St)(h:SH B w (bl bb (MX S at_ x q h0 key v gen) 272::S.a s::L))(hs:Ct.Rm (j+2*(n+1)+3) s)(hat:1<=at_)(hgen:1<=gen)(hh:h0<18446744073709551616)(hxh:x.hash<18446744073709551616)(hky:key.size<=64)(hkx:x.key.size<=64)(hne0:Ct.bR x.key key=false)(hn:n+1<=11):
  Calls prog 300 #[↑bb,.int .i64 (11-((n+1:Nat):Int))] w λe w'=>∃s' r,(∀{β:Type} (k:Int->Ct.I β),(Ct.uY x at_ h0 key v gen (n+1) k).head s=(k r).head s')/\1<=r/\Ct.Rm j s'/\e=.returned (.int .i64 r)/\SH B w' (bl bb (MX S at_ x q h0 key v gen) 272::S.a s'::L):=by
 refine bZ func300 ntmps300 h λw h=>?_
 refine dZ [1,3,5,7,9,13,15,17,19,21,23,10,24,26,28] (by kernel_rfl) h (.c r0 .n) λw h=>go h λw h=>?_
 refine cs (ca eF rfl) ((nB h0 (11-((n+1:Nat):Int)) _ (by omega)).mono ?_)
 rintro _ _ ⟨rfl,rfl⟩
 refine⟨_,rfl,h.hs (.c r0 .n),?_⟩
 refine cs (ca eF rfl) ((nB x.hash (11-((n+1:Nat):Int)) _ (by omega)).mono ?_)
 rintro _ _ ⟨rfl,rfl⟩
 refine⟨_,rfl,h.hs (.c r0 .n),?_⟩
 refine ef (sg rfl) (h.hs (.c r0 .n))<|ef (sg rfl) (h.hs (.c r0 .n))<|xz<|nx<|sq<|rg<|?_
 refine cG (Vz h.to) λq1 w h=>?_
 refine jA h λb2 w h=>?_
 refine qc h (λhd3 w h=>?_) λhd3 w h=>?_
 have hne:Ct.slice x.hash (11-((n+1:Nat):Int))≠Ct.slice h0 (11-((n+1:Nat):Int)):=λq=>(bne_iff_ne.1 hd3) q.symm
 refine dZ [1,3,5,7,9,11,13,15,17,19,21,23,25,27,29,31,33,35,39,41,36,42,44] (by kernel_rfl) h (.c r2 .n) λw h=>go h λw h=>?_
 refine gO (qD _ _ _ h.to) λw h=>?_
 refine cs (ci (S.sA h a3) rfl rfl) ((cQ S s ({kind:=4,hash:=h0,key:=key,value:=v}:Ct.Node) {} 0 (SH.eE ({kind:=4,hash:=h0,key:=key,value:=v}:Ct.Node) rfl rfl h.to) hs (Ct.iF _ 4 h0 key v (by decide) hh hky)).mono ?_)
 rintro _ w ⟨rfl,h⟩
 have hs:=hs.alloc (Ct.iF _ 4 h0 key v (by decide) hh hky) 0
 refine⟨_,rfl,h.hs (.c r3 .n),?_⟩
 refine go h λw h=>?_
 refine Uc (F:=[bl b2 (aL ({kind:=3}:Ct.Node) q1) 90,bl bb (MX S at_ x q h0 key v gen) 272]) [(true,[1,3,5,7,9,11,12,15,17]),(false,[19,20])] (by kernel_rfl) h (λw h=>(hC (h.at_ a1) (hC (h.at_ a3) hN))) λw h=>go h λw h=>?_
 refine lH (qH ({kind:=3}:Ct.Node) _ _ _ _ _ _ h.to (n7 (Ct.fY 1)) c3 (dD _ _).1 (dD _ _).2 hat (Ct.RU _)) λq5 w h=>?_
 refine cG (qH _ _ _ _ _ _ _ h.to (n7 (Ct.eB (Ct.fY 1) _ _)) (F8 (dD _ _).1 (dD _ _).2 hat) (dD _ _).1 (dD _ _).2 (lY _ _ _) (i6 (dD _ _).1 (dD _ _).2 (dD _ _).1 (dD _ _).2 hne hat)) λq6 w h=>?_
 refine dZ [1,3,5,7,9,10,12] (by kernel_rfl) h (.c r5 (.c r4 .n)) λw h=>go h λw h=>?_
 refine cs (ci (S.sA h a3) rfl rfl) ((cQ S (s.alloc ({kind:=4,hash:=h0,key:=key,value:=v}:Ct.Node) 0).1 (Ct.aS (Ct.aS ({kind:=3}:Ct.Node) (Ct.slice x.hash (11-((n+1:Nat):Int))) at_).1 (Ct.slice h0 (11-((n+1:Nat):Int))) (s.alloc ({kind:=4,hash:=h0,key:=key,value:=v}:Ct.Node) 0).2).1 q6 0 h.to hs (Ct.eB (Ct.eB (Ct.fY _) (Ct.slice x.hash (11-((n+1:Nat):Int))) at_) (Ct.slice h0 (11-((n+1:Nat):Int))) (s.alloc ({kind:=4,hash:=h0,key:=key,value:=v}:Ct.Node) 0).2)).mono ?_)
 rintro _ w ⟨rfl,h⟩
 have hs:=hs.alloc (Ct.eB (Ct.eB (Ct.fY _) (Ct.slice x.hash (11-((n+1:Nat):Int))) at_) (Ct.slice h0 (11-((n+1:Nat):Int))) (s.alloc ({kind:=4,hash:=h0,key:=key,value:=v}:Ct.Node) 0).2) 0
 refine⟨_,rfl,h.hs (.c r4 (.c r3 .n)),?_⟩
 refine go h λw h=>?_
 refine rz ?_
 exact⟨_,_,λk=>by show (bif _ then _ else _:Ct.I _).head _=_;rw[hd3];rfl,lY _ _ _,hs.less (by omega),rfl,(h.to.fr (.c r1 (.c r0 .n)))⟩
 have hg7:=eS hd3
 refine go h λw h=>?_
 refine st (bw rfl rfl (gN (c:=(11-(n:Int))) (by omega) (by omega) (by omega)))<|go h λw h=>?_
 refine cl (ca eF rfl) ((hrec (j+2) S at_ x q h0 key v gen bb _ _ _ s (h.fr (.c r2 (.c r2 .n))) (hs.less (by omega)) hat hgen hh hxh hky hkx hne0 (by omega)).mono ?_)
 rintro _ w ⟨s8,r9,hq10,hr_r9,hs,rfl,h⟩
 refine⟨_,rfl,?_⟩
 refine st (sg rfl)<|xe<|nx<|sq<|?_
 refine go h λw h=>?_
 refine dZ [1,3,5,7,9,11,13,15,19,21,23,16,24,26] (by kernel_rfl) h (.c r0 .n) λw h=>go h λw h=>?_
 refine gO (nA _ h.to) λw h=>?_
 refine cs (ci (S.sA h a1) rfl rfl) ((cQ S s8 ({kind:=2,gen:=gen}:Ct.Node) {} r9 (SH.eE ({kind:=2,gen:=gen}:Ct.Node) rfl rfl h.to) hs (Ct.bG _ 2 gen 0 0 0)).mono ?_)
 rintro _ w ⟨rfl,h⟩
 have hs:=hs.alloc (Ct.bG _ 2 gen 0 0 0) r9
 refine⟨_,rfl,h.hs (.c r1 .n),?_⟩
 refine go h λw h=>?_
 refine cG (qH ({kind:=3}:Ct.Node) _ _ _ _ _ _ h.to (n7 (Ct.fY 1)) c3 (dD _ _).1 (dD _ _).2 (lY _ _ _) (Ct.RU _)) λq13 w h=>?_
 refine dZ [1,3,5,7,9,10,12] (by kernel_rfl) h (.c r3 (.c r3 .n)) λw h=>go h λw h=>?_
 refine cs (ci (S.sA h a2) rfl rfl) ((cQ S (s8.alloc ({kind:=2,gen:=gen}:Ct.Node) r9).1 (Ct.aS ({kind:=3}:Ct.Node) (Ct.slice h0 (11-((n+1:Nat):Int))) (s8.alloc ({kind:=2,gen:=gen}:Ct.Node) r9).2).1 q13 0 h.to hs (Ct.eB (Ct.fY _) (Ct.slice h0 (11-((n+1:Nat):Int))) (s8.alloc ({kind:=2,gen:=gen}:Ct.Node) r9).2)).mono ?_)
 rintro _ w ⟨rfl,h⟩
 have hs:=hs.alloc (Ct.eB (Ct.fY _) (Ct.slice h0 (11-((n+1:Nat):Int))) (s8.alloc ({kind:=2,gen:=gen}:Ct.Node) r9).2) 0
 refine⟨_,rfl,h.hs (.c r2 (.c r2 .n)),?_⟩
 refine go h λw h=>?_
 refine rz ?_
 exact⟨_,_,λk=>by show (bif _ then _ else _:Ct.I _).head _=_;rw[hd3];exact hq10 _,lY _ _ _,hs.less (by omega),rfl,(h.to.fr (.c r1 (.c r0 .n)))⟩
theorem Zd:∀n,OL n
 |0=>λj S at_ x q h0 key v gen bb B w L s h hs a1 a2 a3 a4 a5 a6 a7 _=>JC j S at_ x q h0 key v gen bb s h hs a1 a2 a3 a4 a5 a6 a7
 |n+1=>λj S at_ x q h0 key v gen bb B w L s h hs a1 a2 a3 a4 a5 a6 a7 hn=>IX n (Zd n) j S at_ x q h0 key v gen bb s h hs a1 a2 a3 a4 a5 a6 a7 hn
theorem L7{n:Nat}{e:Tm}{d:Option Tmp}{ty:TypeId}{ps:String}{af:Array Edge}{g:Option (Nat×Bool)}{w:World}{x y:Operand}{t:TypeId}{u:Value}(hx:ev n e x=some (.iface t u))(hy:ev n e y=some .nilIface):Y prog n e ⟨d,.binOp .eql 96 x y 96,ty,ps,af,g⟩ w (.bool false) w:=
 bc hx hy (by
  have h:(binOp BinOp.eql 96 (.iface t u) .nilIface).run prog w=.ok (.bool false) w:=by kernel_rfl
  simp[eqGuard,h])
theorem pN{β:Type}{x:Ct.Node}{at_:Int}{h0:Nat}{key:ByteArray}{v:Nat}{level gen:Int}{k:Int->Int->Ct.I β}{s:Ct.St}(hn:s.node at_=x)(h1:(decide (level<0)||(decide (level>11)||decide (gen<1)))=false):(Ct.vJ at_ h0 key v level gen k).head s=((bif x.kind != 4||(decide (64<key.size)||Ct.bR key x.key)then k 0 1 else bif decide ((Ct.aJ x.hash h0:Int)<level)then k 0 1 else Ct.uY x at_ h0 key v gen (11-level).toNat λr=>k r 0)).head s:=by
 unfold Ct.vJ;rw[h1];simp only[cond_false];subst hn;rfl
theorem TT(j:Nat)(S:dN)(at_:Int)(x:Ct.Node)(q:Lq)(h0:Nat)(key:ByteArray)(v:Nat)(gen:Int)(bb:Nat)(level:Int){s:Ct.St}(h:SH B w (bl bb (MX S at_ x q h0 key v gen) 272::S.a s::L))(hs:Ct.Rm (j+25) s)(hat:1<=at_)(hgen:1<=gen)(hh:h0<18446744073709551616)(hxh:x.hash<18446744073709551616)(hky:key.size<=64)(hkx:x.key.size<=64)(hne0:Ct.bR x.key key=false)(l0:0<=level)(l1:level<=11):
  Calls prog 300 #[↑bb,↑level] w λe w'=>∃s' r,(∀{β:Type} (k:Int->Ct.I β),(Ct.uY x at_ h0 key v gen (11-level).toNat k).head s=(k r).head s')/\1<=r/\Ct.Rm j s'/\e=.returned (.int .i64 r)/\SH B w' (bl bb (MX S at_ x q h0 key v gen) 272::S.a s'::L):=by
 obtain⟨n,hn,rfl⟩:∃n:Nat,n<=11/\level=11-(n:Int):=⟨(11-level).toNat,by omega,by omega⟩
 rw[show (11-(11-(n:Int))).toNat=n by omega]
 exact Zd n j S at_ x q h0 key v gen bb B w L s h (hs.less (by omega)) hat hgen hh hxh hky hkx hne0 hn
theorem JY{a b:ByteArray}(h:(a.toList==b.toList)=false):Ct.bR b a=false:=by
 cases hb:Ct.bR b a with
 |false=>rfl
 |true=>rw[kM hb]at h;simp at h
section
attribute [local semireducible] gB wpS Go.E.X XS C jU kP fin Y U F Ca jT bl rb aU bV ex ce pu sK gK bK zK gM fO dH gP nE rD
attribute [local irreducible] gB wpS
variable{B w:World}{L:List As}
theorem JI(j:Nat)(S:dN)(at_:Int)(h0:Nat)(key:ByteArray)(v:Nat)(level gen:Int)(s:Ct.St)(h:SH B w (S.a s::L))(hs:Ct.Rm (j+25) s)(hat:1<=at_)(hh:h0<18446744073709551616)(hkz:key.size<=9223372036854775807):
  Calls prog 280 #[S.v,↑at_,.int .u64 (h0:Int),↑key,.int .u64 (v:Int),↑level,↑gen] w λe w'=>∃s' r e',(∀{β:Type} (k:Int->Int->Ct.I β),(Ct.vJ at_ h0 key v level gen k).head s=(k r e').head s')/\(e'=0->1<=r)/\Ct.Rm j s'/\e=.returned (.tuple #[.int .i64 r,.int .i64 e'])/\SH B w' (S.a s'::L):=by
 refine Ea (args:=[_,_,_,_,_,_,_]) func280 rfl ntmps280 rfl ?_
 refine sq<|rg<|st (sg rfl)<|st (sg rfl)<|xe<|nx<|sq<|sq<|rg<|st (mv rfl)<|st (bi rfl rfl rfl)<|st (mv rfl)<|?_
 rcases CG (decide ((level:Int)<0))with hd1|hd1
 ·have hg2:=Qa hd1
  refine gF rfl rfl hd1<|gF rfl rfl hd1<|st (pT rfl hd1 rfl)<|st (mv rfl)<|gF rfl rfl rfl<|gF rfl rfl rfl<|st (pT rfl rfl rfl)<|xe<|nx<|cT rfl<|sq<|rg<|st (sg rfl)<|st (sg rfl)<|xe<|nx<|rt<|tr<|?_
  refine rr (gE results280 rfl rfl)<|?_
  exact⟨_,_,_,λk=>(by unfold Ct.vJ;rw[show (decide (level<0)||(decide (level>11)||decide (gen<1)))=true from(by simp only[hd1,PQ,mD,Pe,AD])];rfl),(λq=>absurd q (by decide)),hs.less (by omega),rfl,h⟩
 ·have hg3:=zG hd1
  refine gT rfl rfl hd1<|st (mv rfl)<|gT rfl rfl hd1<|st (bi rfl rfl rfl)<|st (pF rfl hd1 rfl)<|st (mv rfl)<|?_
  rcases CG (decide ((level:Int)>11))with hd4|hd4
  ·have hg5:=Qa hd4
   refine gF rfl rfl hd4<|gF rfl rfl hd4<|st (pT rfl hd4 rfl)<|xe<|nx<|cT rfl<|sq<|rg<|st (sg rfl)<|st (sg rfl)<|xe<|nx<|rt<|tr<|?_
   refine rr (gE results280 rfl rfl)<|?_
   exact⟨_,_,_,λk=>(by unfold Ct.vJ;rw[show (decide (level<0)||(decide (level>11)||decide (gen<1)))=true from(by simp only[hd1,hd4,PQ,mD,Pe,AD])];rfl),(λq=>absurd q (by decide)),hs.less (by omega),rfl,h⟩
  ·have hg6:=zG hd4
   refine gT rfl rfl hd4<|st (mv rfl)<|gT rfl rfl hd4<|st (bi rfl rfl rfl)<|st (pF rfl hd4 rfl)<|xe<|nx<|?_
   rcases CG (decide ((gen:Int)<1))with hd7|hd7
   ·have hg8:=Qa hd7
    refine ct rfl hd7<|sq<|rg<|st (sg rfl)<|st (sg rfl)<|xe<|nx<|rt<|tr<|?_
    refine rr (gE results280 rfl rfl)<|?_
    exact⟨_,_,_,λk=>(by unfold Ct.vJ;rw[show (decide (level<0)||(decide (level>11)||decide (gen<1)))=true from(by simp only[hd1,hd4,hd7,PQ,mD,Pe,AD])];rfl),(λq=>absurd q (by decide)),hs.less (by omega),rfl,h⟩
   ·have hg9:=zG hd7
    refine cf rfl hd7<|sk<|nx<|sq<|sq<|rg<|st (mv rfl)<|st (L7 rfl rfl)<|xe<|nx<|cF rfl<|sk<|nx<|sq<|rg<|st (mv rfl)<|st (mv rfl)<|cl (ci (S.sN h a0) rfl rfl) ((cK S s at_ (h.fr (.c r0 .n)) hs).mono ?_)
    rintro _ w ⟨q,rfl,h⟩
    refine⟨_,rfl,?_⟩
    refine sf (al h Ur)<|?_
    rintro _ w ⟨b11,rfl,h⟩
    refine sf (so h rfl rfl rfl vA rfl (.r (.r (.r (.r (.r (.r (.r (.r (.r (.r (.r (.r (.r (.r .d)))))))))))))) u0)<|?_
    rintro _ w h
    refine xe<|nx<|sq<|sq<|rg<|st (fa tL rfl)<|st (ld jE rfl (h.c a0 rfl))<|st (bi rfl rfl rfl)<|st (mv rfl)<|?_
    rcases CG (((s.node at_).kind:Int) != 4)with hd12|hd12
    ·have hg13:=bne_iff_ne.1 hd12
     refine gF rfl rfl hd12<|gF rfl rfl hd12<|gF rfl rfl hd12<|st (pT rfl hd12 rfl)<|st (mv rfl)<|gF rfl rfl rfl<|gF rfl rfl rfl<|gF rfl rfl rfl<|gF rfl rfl rfl<|st (pT rfl rfl rfl)<|xe<|nx<|cT rfl<|sq<|rg<|st (sg rfl)<|st (sg rfl)<|xe<|nx<|rt<|tr<|?_
     refine rr (gE results280 rfl rfl)<|?_
     have hlv:(decide (level<0)||(decide (level>11)||decide (gen<1)))=false:=(by simp only[hd1,hd4,hd7,PQ,mD,Pe,AD])
     exact⟨_,_,_,λk=>(by rw[pN rfl hlv,show ((s.node at_).kind != 4||(decide (64<key.size)||Ct.bR key (s.node at_).key))=true from(by simp only[Ct.bR,hd12,PQ,mD,Pe,AD])];rfl),(λq=>absurd q (by decide)),hs.less (by omega),rfl,h.drop.drop⟩
    ·have hg14:=eS hd12
     refine gT rfl rfl hd12<|st (mv rfl)<|gT rfl rfl hd12<|st (PA Qw rfl rfl)<|gT rfl rfl hd12<|st (bi rfl rfl rfl)<|st (pF rfl hd12 rfl)<|st (mv rfl)<|?_
     rcases CG (decide (((key.size:Int):Int)>64))with hd15|hd15
     ·have hg16:=Qa hd15
      refine gF rfl rfl hd15<|gF rfl rfl hd15<|gF rfl rfl hd15<|gF rfl rfl hd15<|st (pT rfl hd15 rfl)<|xe<|nx<|cT rfl<|sq<|rg<|st (sg rfl)<|st (sg rfl)<|xe<|nx<|rt<|tr<|?_
      refine rr (gE results280 rfl rfl)<|?_
      have hlv:(decide (level<0)||(decide (level>11)||decide (gen<1)))=false:=(by simp only[hd1,hd4,hd7,PQ,mD,Pe,AD])
      have hks:decide (64<key.size)=true:=zT (by have:=Qa hd15;omega)
      exact⟨_,_,_,λk=>(by rw[pN rfl hlv,show ((s.node at_).kind != 4||(decide (64<key.size)||Ct.bR key (s.node at_).key))=true from(by simp only[Ct.bR,hd12,hks,PQ,mD,Pe,AD])];rfl),(λq=>absurd q (by decide)),hs.less (by omega),rfl,h.drop.drop⟩
     ·have hg17:=zG hd15
      refine gT rfl rfl hd15<|st (mv rfl)<|gT rfl rfl hd15<|st (fa Fu rfl)<|gT rfl rfl hd15<|st (ld uK rfl (h.c a0 rfl))<|gT rfl rfl hd15<|st (sb rfl rfl rfl)<|st (pF rfl hd15 rfl)<|xe<|nx<|?_
      rcases CG (key.toList==(s.node at_).key.toList)with hd18|hd18
      ·refine ct rfl hd18<|sq<|rg<|st (sg rfl)<|st (sg rfl)<|xe<|nx<|rt<|tr<|?_
       refine rr (gE results280 rfl rfl)<|?_
       have hlv:(decide (level<0)||(decide (level>11)||decide (gen<1)))=false:=(by simp only[hd1,hd4,hd7,PQ,mD,Pe,AD])
       have hks:decide (64<key.size)=false:=mI (by have:=zG hd15;omega)
       exact⟨_,_,_,λk=>(by rw[pN rfl hlv,show ((s.node at_).kind != 4||(decide (64<key.size)||Ct.bR key (s.node at_).key))=true from(by simp only[Ct.bR,hd12,hks,hd18,PQ,mD,Pe,AD])];rfl),(λq=>absurd q (by decide)),hs.less (by omega),rfl,h.drop.drop⟩
      ·refine cf rfl hd18<|sk<|nx<|sq<|sq<|?_
       have hxh:=(hs.node at_).1.2.2.2.1
       refine rg<|st (fa DO rfl)<|st (ld nC rfl (h.c a0 rfl))<|st (mv rfl)<|cl (ca eF rfl) ((Zr (s.node at_).hash h0 _ (by omega) (by omega)).mono ?_)
       rintro _ _ ⟨rfl,rfl⟩
       refine⟨_,rfl,?_⟩
       refine st (mv rfl)<|st (bi rfl rfl rfl)<|xe<|nx<|?_
       rcases CG (decide ((((Ct.aJ (s.node at_).hash h0:Nat):Int):Int)<level))with hd19|hd19
       ·have hg20:=Qa hd19
        refine ct rfl hd19<|sq<|rg<|st (sg rfl)<|st (sg rfl)<|xe<|nx<|rt<|tr<|?_
        refine rr (gE results280 rfl rfl)<|?_
        have hlv:(decide (level<0)||(decide (level>11)||decide (gen<1)))=false:=(by simp only[hd1,hd4,hd7,PQ,mD,Pe,AD])
        have hks:decide (64<key.size)=false:=mI (by have:=zG hd15;omega)
        have hkc:((s.node at_).kind != 4||(decide (64<key.size)||Ct.bR key (s.node at_).key))=false:=(by simp only[Ct.bR,hd12,hks,hd18,PQ,mD,Pe,AD])
        exact⟨_,_,_,λk=>(by rw[pN rfl hlv,hkc];show (bif _ then _ else _:Ct.I _).head _=_;rw[hd19];rfl),(λq=>absurd q (by decide)),hs.less (by omega),rfl,h.drop.drop⟩
       ·have hg21:=zG hd19
        refine cf rfl hd19<|sk<|nx<|sq<|?_
        have hne0:Ct.bR (s.node at_).key key=false:=JY hd18
        refine rg<|st (mv rfl)<|st (mv rfl)<|st (gJ rfl (dK (h.b a0)) fK)<|st (mv rfl)<|st (mv rfl)<|st (mv rfl)<|st (bd [↑key,.int .u64 (v:Int)] pK rfl (by kernel_rfl))<|st (mv rfl)<|st (bd [S.v,↑at_,.int .i64 (s.node at_).kind,.int .i64 (s.node at_).gen,.int .i64 (s.node at_).main,.int .u64 (((s.node at_).aD:Nat):Int),.slice q.pb (s.node at_).aA.length q.cb,.int .u64 (((s.node at_).hash:Nat):Int),.string (s.node at_).key,.int .u64 (((s.node at_).value:Nat):Int),.slice q.pp (s.node at_).aF.length q.cp,.int .i64 (s.node at_).prev,.int .i64 (s.node at_).dC,.int .i64 (s.node at_).aK,.int .i64 (s.node at_).new,.int .i64 (s.node at_).status,.int .u64 (h0:Int),↑key,.int .u64 (v:Int),↑gen] S2 rfl (by kernel_rfl))<|sf (al h S4)<|?_
        rintro _ w ⟨b22,rfl,h⟩
        refine sf (so h rfl rfl rfl S8 rfl (.r (.r (.r (.r (.r (.r (.r (.r (.r (.r (.r (.r (.r (.r (.r (.r (.r (.r (.r (.r .d)))))))))))))))))))) u0)<|?_
        rintro _ w h
        refine xe<|nx<|sq<|rg<|st (mv rfl)<|?_
        have h:SH B w (bl b22 (MX S at_ (s.node at_) q h0 key v gen) 272::bl b11 (aL (s.node at_) q) 90::aM (s.node at_) q::S.a s::L):=h.fr (.c r0 .n)
        refine cl (ca eF rfl) ((TT j S at_ (s.node at_) q h0 key v gen b22 level (h.fr (.c r0 (.c r2 .n))) (hs.less (by omega)) hat (by omega) hh (hs.node at_).1.2.2.2.1 (by omega) (hs.node at_).2 hne0 (by omega) (by omega)).mono ?_)
        rintro _ w ⟨s23,r24,hq25,hr_r24,hs,rfl,h⟩
        refine⟨_,rfl,?_⟩
        refine st (sg rfl)<|st (sg rfl)<|xe<|nx<|rt<|?_
        refine rr (gE results280 rfl rfl)<|?_
        have hlv:(decide (level<0)||(decide (level>11)||decide (gen<1)))=false:=(by simp only[hd1,hd4,hd7,PQ,mD,Pe,AD])
        have hks:decide (64<key.size)=false:=mI (by have:=zG hd15;omega)
        have hkc:((s.node at_).kind != 4||(decide (64<key.size)||Ct.bR key (s.node at_).key))=false:=(by simp only[Ct.bR,hd12,hks,hd18,PQ,mD,Pe,AD])
        exact⟨_,_,_,λk=>(by rw[pN rfl hlv,hkc];show (bif _ then _ else _:Ct.I _).head _=_;rw[hd19];exact hq25 _),(λ_=>hr_r24),hs,rfl,(h.fr (.c r0 (.c r1 (.c r1 .n)))).drop.drop.drop⟩
end
end Go.Q9
end
section
namespace Go.Q9
open Go.Proofs.Tryz
open Go.E
end Go.Q9
end
section
namespace Go.Q9
open Go.Proofs.Tryz
open Go.RowKit Go.E Go.Ct
attribute [local irreducible] gB wpS Go.E.X XS C jU kP fin Y U F Ca jT bl rb aU bV ex ce pu sK gK bK zK gM fO dH gP nE
def LB(n:Ct.Node)(i:Int):Bool:=n.lO&&(decide (0<=i)&&decide (i<64))
theorem GA{n:Ct.Node}{i:Int}(h:LB n i=true):n.lO=true/\0<=i/\i<64:=by unfold LB at h;simpa using h
variable{B w:World}{L:List As}
theorem Nn(n:Ct.Node)(q:Lq)(i:Int)(h:SH B w (aM n q::L))(nf:NF n):
  Calls prog 269 #[.agg (aL n q).toArray,↑i] w λe w'=>e=.returned (.bool (LB n i))/\SH B w' (aM n q::L):=by
 have nf_br:=nf.br
 have nf_pr:=nf.pr
 have nf_bm:=nf.bm
 have nf_hs:=nf.hs
 have nf_ks:=nf.ks
 refine bZ func269 ntmps269 h λw h=>?_
 refine jX h λb1 w h=>?_
 refine bA (tO _ _ h.to nf) λw h=>?_
 refine qg h (λhd2 w h=>?_) λhd2 w h=>?_
 refine qg h (λhd3 w h=>?_) λhd3 w h=>?_
 have hg4:=Qa hd3
 refine go h λw h=>?_
 exact rz ⟨by unfold LB;rw[hd2,show decide (0<=i)=true from zT (by have:=Qa hd3;omega),Bool.true_and,Bool.true_and],h.to⟩
 have hg5:=zG hd3
 refine go h λw h=>?_
 exact rz ⟨by unfold LB;rw[show decide (0<=i)=false from mI (by have:=zG hd3;omega),Bool.false_and,Bool.and_false],h.to⟩
 refine rz ?_
 exact⟨by unfold LB;rw[hd2];rfl,h.to⟩
theorem iN{n:Ct.Node}{i r:Int}(hn:(Ct.aS n i r).2=false):Ct.aS n i r=({},false):=by
 unfold Ct.aS at hn ⊢;split at hn
 ·rename_i h;rw[if_pos h]
 ·cases hn
theorem Sq{n:Ct.Node}{i r:Int}(hc:LB n i=true)(hr:decide ((r:Int)<1)=false)(hn:(Ct.aS n i r).2=false):Bm.has n.aD i=true:=by
 obtain⟨h1,h2,h3⟩:=GA hc
 have hr:=zG hr
 cases hb:Bm.has n.aD i with
 |true=>rfl
 |false=>
  unfold Ct.aS at hn;rw[if_neg (by simp[h1,hb];omega)]at hn;cases hn
theorem Mk{n:Ct.Node}{i r:Int}(hn:(Ct.aS n i r).2=true):n.lO=true/\0<=i/\i<64/\1<=r/\Bm.has n.aD i=false:=by
 unfold Ct.aS at hn;split at hn
 ·cases hn
 ·rename_i h
  refine⟨by cases hc:n.lO<;>simp_all,by omega,by omega,by omega,by cases hb:Bm.has n.aD i<;>simp_all⟩
theorem Yi(n:Ct.Node)(q:Lq)(i r:Int)(h:SH B w (aM n q::L))(nf:NF n)(hn:(Ct.aS n i r).2=false):
  Calls prog 279 #[.agg (aL n q).toArray,↑i,↑r] w λe w'=>∃q',e=.returned (.tuple #[.agg (aL (Ct.aS n i r).1 q').toArray,.bool (Ct.aS n i r).2])/\SH B w' (aM (Ct.aS n i r).1 q'::aM n q::L):=by
 have nf_br:=nf.br
 have nf_pr:=nf.pr
 have nf_bm:=nf.bm
 have nf_hs:=nf.hs
 have nf_ks:=nf.ks
 refine bZ func279 ntmps279 h λw h=>?_
 refine jX h λb1 w h=>?_
 refine jA h λb2 w h=>?_
 refine bA (Nn _ _ _ h.to nf) λw h=>?_
 refine qg h (λhd3 w h=>?_) λhd3 w h=>?_
 have hd4:(LB n i)=false:=(xE _).mp hd3
 refine go h λw h=>?_
 exact rr (cL rfl rfl (h.b a1) Row.h rfl)<|⟨{},by rw[iN hn];rfl,by rw[iN hn];exact SH.eE _ rfl rfl h.to⟩
 have hd5:(LB n i)=true:=(cW _).mp hd3
 refine go h λw h=>?_
 refine qg h (λhd6 w h=>?_) λhd6 w h=>?_
 have hg7:=Qa hd6
 refine go h λw h=>?_
 exact rr (cL rfl rfl (h.b a1) Row.h rfl)<|⟨{},by rw[iN hn];rfl,by rw[iN hn];exact SH.eE _ rfl rfl h.to⟩
 have hg8:=zG hd6
 refine go h λw h=>?_
 refine cl (ca eF rfl) ((Ax n.aD i _ (by omega)).mono ?_)
 rintro _ _ ⟨rfl,rfl⟩
 refine⟨_,rfl,?_⟩
 refine st (pF rfl hd6 rfl)<|xe<|nx<|?_
 refine go h λw h=>?_
 refine ct rfl (Sq hd5 hd6 hn)<|go h λw h=>?_
 exact rr (cL rfl rfl (h.b a1) Row.h rfl)<|⟨{},by rw[iN hn];rfl,by rw[iN hn];exact SH.eE _ rfl rfl h.to⟩
theorem Mi(n:Ct.Node)(q:Lq)(i r:Int)(h:SH B w (aM n q::L))(nf:NF n):
  Calls prog 279 #[.agg (aL n q).toArray,↑i,↑r] w λe w'=>∃q',e=.returned (.tuple #[.agg (aL (Ct.aS n i r).1 q').toArray,.bool (Ct.aS n i r).2])/\SH B w' (aM (Ct.aS n i r).1 q'::aM n q::L):=by
 cases hn:(Ct.aS n i r).2 with
 |false=>rw[<- hn];exact Yi n q i r h nf hn
 |true=>
  obtain⟨h1,h2,h3,hr,hh⟩:=Mk hn
  exact qH n q.pb q.cb q.pp q.cp i r h nf h1 h2 h3 hr hh
theorem jG{n:Ct.Node}{i r:Int}(hn:(Ct.aP n i r).2=false):Ct.aP n i r=({},false):=by
 unfold Ct.aP at hn ⊢;split at hn
 ·rename_i h;rw[if_pos h]
 ·cases hn
theorem Xr{n:Ct.Node}{i r:Int}(hc:LB n i=true)(hr:decide ((r:Int)<1)=false)(hn:(Ct.aP n i r).2=false):Bm.has n.aD i=false:=by
 obtain⟨h1,h2,h3⟩:=GA hc
 have hr:=zG hr
 cases hb:Bm.has n.aD i with
 |false=>rfl
 |true=>
  unfold Ct.aP at hn;rw[if_neg (by simp[h1,hb];omega)]at hn;cases hn
theorem Qm{n:Ct.Node}{i r:Int}(hn:(Ct.aP n i r).2=true):n.lO=true/\0<=i/\i<64/\1<=r/\Bm.has n.aD i=true:=by
 unfold Ct.aP at hn;split at hn
 ·cases hn
 ·rename_i h
  refine⟨by cases hc:n.lO<;>simp_all,by omega,by omega,by omega,by cases hb:Bm.has n.aD i<;>simp_all⟩
theorem CF(n:Ct.Node)(q:Lq)(i r:Int)(h:SH B w (aM n q::L))(nf:NF n)(hn:(Ct.aP n i r).2=false):
  Calls prog 241 #[.agg (aL n q).toArray,↑i,↑r] w λe w'=>∃q',e=.returned (.tuple #[.agg (aL (Ct.aP n i r).1 q').toArray,.bool (Ct.aP n i r).2])/\SH B w' (aM (Ct.aP n i r).1 q'::aM n q::L):=by
 have nf_br:=nf.br
 have nf_pr:=nf.pr
 have nf_bm:=nf.bm
 have nf_hs:=nf.hs
 have nf_ks:=nf.ks
 refine bZ func241 ntmps241 h λw h=>?_
 refine jX h λb1 w h=>?_
 refine jA h λb2 w h=>?_
 refine bA (Nn _ _ _ h.to nf) λw h=>?_
 refine qg h (λhd3 w h=>?_) λhd3 w h=>?_
 have hd4:(LB n i)=false:=(xE _).mp hd3
 refine go h λw h=>?_
 exact rr (cL rfl rfl (h.b a1) Row.h rfl)<|⟨{},by rw[jG hn];rfl,by rw[jG hn];exact SH.eE _ rfl rfl h.to⟩
 have hd5:(LB n i)=true:=(cW _).mp hd3
 refine go h λw h=>?_
 refine qg h (λhd6 w h=>?_) λhd6 w h=>?_
 have hg7:=Qa hd6
 refine go h λw h=>?_
 exact rr (cL rfl rfl (h.b a1) Row.h rfl)<|⟨{},by rw[jG hn];rfl,by rw[jG hn];exact SH.eE _ rfl rfl h.to⟩
 have hg8:=zG hd6
 refine go h λw h=>?_
 refine cl (ca eF rfl) ((Ax n.aD i _ (by omega)).mono ?_)
 rintro _ _ ⟨rfl,rfl⟩
 refine⟨_,rfl,?_⟩
 refine gT rfl rfl hd6<|st (nt rfl)<|st (pF rfl hd6 rfl)<|xe<|nx<|?_
 refine go h λw h=>?_
 refine ct rfl (tJ (Xr hd5 hd6 hn))<|go h λw h=>?_
 exact rr (cL rfl rfl (h.b a1) Row.h rfl)<|⟨{},by rw[jG hn];rfl,by rw[jG hn];exact SH.eE _ rfl rfl h.to⟩
theorem gI(n:Ct.Node)(q:Lq)(i r:Int)(h:SH B w (aM n q::L))(nf:NF n):
  Calls prog 241 #[.agg (aL n q).toArray,↑i,↑r] w λe w'=>∃q',e=.returned (.tuple #[.agg (aL (Ct.aP n i r).1 q').toArray,.bool (Ct.aP n i r).2])/\SH B w' (aM (Ct.aP n i r).1 q'::aM n q::L):=by
 cases hn:(Ct.aP n i r).2 with
 |false=>rw[<- hn];exact CF n q i r h nf hn
 |true=>
  obtain⟨h1,h2,h3,hr,hh⟩:=Qm hn
  exact AZ n q.pb q.cb q.pp q.cp i r h nf h1 h2 h3 hr hh
theorem oD{n:Ct.Node}{i:Int}(hn:(Ct.bL n i).2=false):Ct.bL n i=({},false):=by
 unfold Ct.bL at hn ⊢;split at hn
 ·rename_i h;rw[if_pos h]
 ·cases hn
theorem LJ{n:Ct.Node}{i:Int}(hc:LB n i=true)(hn:(Ct.bL n i).2=false):Bm.has n.aD i=false:=by
 obtain⟨h1,h2,h3⟩:=GA hc
 cases hb:Bm.has n.aD i with
 |false=>rfl
 |true=>
  unfold Ct.bL at hn;rw[if_neg (by simp[h1,hb];omega)]at hn;cases hn
theorem AT{n:Ct.Node}{i:Int}(hn:(Ct.bL n i).2=true):n.lO=true/\0<=i/\i<64/\Bm.has n.aD i=true:=by
 unfold Ct.bL at hn;split at hn
 ·cases hn
 ·rename_i h
  refine⟨by cases hc:n.lO<;>simp_all,by omega,by omega,by cases hb:Bm.has n.aD i<;>simp_all⟩
theorem LU(n:Ct.Node)(q:Lq)(i:Int)(h:SH B w (aM n q::L))(nf:NF n)(hn:(Ct.bL n i).2=false):
  Calls prog 305 #[.agg (aL n q).toArray,↑i] w λe w'=>∃q',e=.returned (.tuple #[.agg (aL (Ct.bL n i).1 q').toArray,.bool (Ct.bL n i).2])/\SH B w' (aM (Ct.bL n i).1 q'::aM n q::L):=by
 have nf_br:=nf.br
 have nf_pr:=nf.pr
 have nf_bm:=nf.bm
 have nf_hs:=nf.hs
 have nf_ks:=nf.ks
 refine bZ func305 ntmps305 h λw h=>?_
 refine jX h λb1 w h=>?_
 refine jA h λb2 w h=>?_
 refine bA (Nn _ _ _ h.to nf) λw h=>?_
 refine qg h (λhd3 w h=>?_) λhd3 w h=>?_
 have hd4:(LB n i)=false:=(xE _).mp hd3
 refine go h λw h=>?_
 exact rr (cL rfl rfl (h.b a1) Row.h rfl)<|⟨{},by rw[oD hn];rfl,by rw[oD hn];exact SH.eE _ rfl rfl h.to⟩
 have hd5:(LB n i)=true:=(cW _).mp hd3
 refine go h λw h=>?_
 refine cl (ca eF rfl) ((Ax n.aD i _ (by omega)).mono ?_)
 rintro _ _ ⟨rfl,rfl⟩
 refine⟨_,rfl,?_⟩
 refine gT rfl rfl hd3<|st (nt rfl)<|st (pF rfl hd3 rfl)<|xe<|nx<|?_
 refine go h λw h=>?_
 refine ct rfl (tJ (LJ hd5 hn))<|go h λw h=>?_
 exact rr (cL rfl rfl (h.b a1) Row.h rfl)<|⟨{},by rw[oD hn];rfl,by rw[oD hn];exact SH.eE _ rfl rfl h.to⟩
theorem CV(n:Ct.Node)(q:Lq)(i:Int)(h:SH B w (aM n q::L))(nf:NF n):
  Calls prog 305 #[.agg (aL n q).toArray,↑i] w λe w'=>∃q',e=.returned (.tuple #[.agg (aL (Ct.bL n i).1 q').toArray,.bool (Ct.bL n i).2])/\SH B w' (aM (Ct.bL n i).1 q'::aM n q::L):=by
 cases hn:(Ct.bL n i).2 with
 |false=>rw[<- hn];exact LU n q i h nf hn
 |true=>
  obtain⟨h1,h2,h3,hh⟩:=AT hn
  exact NX n q.pb q.cb q.pp q.cp i h nf h1 h2 h3 hh
end Go.Q9
end
section
namespace Go.Q9
open Go.Proofs.Tryz
open Go.E
theorem XR:KY prog 113=some ([.nilIface,.int .i64 0,↑false,.string .empty,.int .u64 0],[(0,3),(3,1),(4,1)]):=by kernel_rfl
theorem z6:zc prog 3=some [.int .i64 0]:=by kernel_rfl
end Go.Q9
end
