/- Parts of a proof: Vx, Ev7, Vq, Azo. -/
import Derived.Test.YtnhdmcipglnkfaaGreatW50
set_option linter.unusedVariables false
set_option linter.unusedSimpArgs false
set_option maxRecDepth 100000
set_option maxHeartbeats 4000000
section
namespace Go.Ct
variable{g:Ga}{s:St}
structure FH where
 i:Int
 m:Int
 a:Int
 l:Int
abbrev PlR:=Bool×List FH×List bA×List Bool
def DB(s:St)(f:Int->List Bool->PlR):List Int->List FH->List bA->List Bool->PlR
 |[],ls,ps,bs=>(true,ls,ps,bs)
 |b::bl,ls,ps,bs=>
  bif (s.node b).kind==4 then DB s f bl ls (ps++[⟨(s.node b).key,(s.node b).value⟩]) bs
  else bif (s.node b).kind != 2 then(false,[],[],bs)
  else bif !(f b bs).1 then(false,[],[],(f b bs).2.2.2)
  else DB s f bl (ls++(f b bs).2.1) (ps++(f b bs).2.2.1) (f b bs).2.2.2
def Ll(s:St):Nat->Int->Int->List Bool->PlR
 |0,_,_,bs=>(false,[],[],bs)
 |d+1,i,a,bs=>
  bif !(cX s i).2||bs.getD i.toNat false then(false,[],[],bs)
  else bif (s.node (cX s i).1).kind==5 then(true,[⟨i,(cX s i).1,a,11-(d:Int)⟩],[⟨(s.node (cX s i).1).key,(s.node (cX s i).1).value⟩],bs.set i.toNat true)
  else bif (s.node (cX s i).1).kind==6 then(true,[⟨i,(cX s i).1,a,11-(d:Int)⟩],(s.node (cX s i).1).aH,bs.set i.toNat true)
  else DB s (λb bs=>Ll s d b i bs) (s.node (cX s i).1).aA [⟨i,(cX s i).1,a,11-(d:Int)⟩] [] (bs.set i.toNat true)
theorem aE9{d:Nat}{i a:Int}{bs:List Bool}(h:(cX s i).2=false):Ll s d i a bs=(false,[],[],bs):=by
 cases d with
 |zero=>rfl
 |succ d=>unfold Ll;rw[h];rfl
theorem A6{d:Nat}{i a:Int}{bs:List Bool}(h:d=0):Ll s d i a bs=(false,[],[],bs):=by subst h;rfl
theorem K2{d rn:Nat}{a:Int}{bs:List Bool}(h:bs.getD rn false=true):Ll s d (rn:Int) a bs=(false,[],[],bs):=by
 cases d with
 |zero=>rfl
 |succ d=>unfold Ll;rw[show ((rn:Int)).toNat=rn from rfl,h,Gs];rfl
variable{d rn:Nat}{a m:Int}{bs:List Bool}{lv:Nat}
theorem aC2(hl:lv+d=12)(hd:lv<=11)(hb:cX s (rn:Int)=(m,true))(hs:bs.getD rn false=false)(h5:((s.node m).kind==5)=true):Ll s d (rn:Int) a bs=(true,[⟨rn,m,a,(lv:Int)⟩],[⟨(s.node m).key,(s.node m).value⟩],bs.set rn true):=by
 obtain⟨d,rfl⟩:∃d',d=d'+1:=⟨d-1,by omega⟩
 unfold Ll
 rw[hb,show ((rn:Int)).toNat=rn from rfl,hs,h5,show (11:Int)-(d:Int)=(lv:Int) by omega];rfl
theorem aIn(hl:lv+d=12)(hd:lv<=11)(hb:cX s (rn:Int)=(m,true))(hs:bs.getD rn false=false)(h5:((s.node m).kind==5)=false)(h6:((s.node m).kind==6)=true):Ll s d (rn:Int) a bs=(true,[⟨rn,m,a,(lv:Int)⟩],(s.node m).aH,bs.set rn true):=by
 obtain⟨d,rfl⟩:∃d',d=d'+1:=⟨d-1,by omega⟩
 unfold Ll
 rw[hb,show ((rn:Int)).toNat=rn from rfl,hs,h5,h6,show (11:Int)-(d:Int)=(lv:Int) by omega];rfl
theorem aJo(hl:lv+d=12)(hd:lv<=11)(hb:cX s (rn:Int)=(m,true))(hs:bs.getD rn false=false)(h5:((s.node m).kind==5)=false)(h6:((s.node m).kind==6)=false):DB s (λb bs=>Ll s (d-1) b (rn:Int) bs) ((s.node m).aA.drop 0) [⟨rn,m,a,(lv:Int)⟩] [] (bs.set rn true)=Ll s d (rn:Int) a bs:=by
 obtain⟨d,rfl⟩:∃d',d=d'+1:=⟨d-1,by omega⟩
 conv=>rhs;unfold Ll
 rw[hb,show ((rn:Int)).toNat=rn from rfl,hs,h5,h6,show (11:Int)-(d:Int)=(lv:Int) by omega];rfl
variable{f:Int->List Bool->PlR}{bl:List Int}{k:Nat}{ls:List FH}{ps:List bA}{R:PlR}
theorem vQ{α:Type}{l:List α}{k:Nat}{z:α}(h:k<l.length):l.drop k=l.getD k z::l.drop (k+1):=by
 rw[cK,fV h];exact UM h
theorem aI2(e:DB s f (bl.drop k) ls ps bs=R)(hk:k<bl.length)(h4:((s.node (bl.getD k 0)).kind==4)=true):DB s f (bl.drop (k+1)) ls (ps++[⟨(s.node (bl.getD k 0)).key,(s.node (bl.getD k 0)).value⟩]) bs=R:=by
 rw[vQ (z:=0) hk]at e;unfold DB at e;rw[h4]at e;exact e
theorem aJ5(e:DB s f (bl.drop k) ls ps bs=R)(hk:k<bl.length)(h4:((s.node (bl.getD k 0)).kind==4)=false)(h2:((s.node (bl.getD k 0)).kind != 2)=true):R=(false,[],[],bs):=by
 rw[vQ (z:=0) hk]at e;unfold DB at e;rw[h4,h2]at e;exact e.symm
variable{l2:List FH}{p2:List bA}{b2:List Bool}
theorem aK0{o2:Bool}(e:DB s f (bl.drop k) ls ps bs=R)(hk:k<bl.length)(h4:((s.node (bl.getD k 0)).kind==4)=false)(h2:((s.node (bl.getD k 0)).kind != 2)=false)(ho:(!o2)=false)(hf:f (bl.getD k 0) bs=(o2,l2,p2,b2)):DB s f (bl.drop (k+1)) (ls++l2) (ps++p2) b2=R:=by
 cases o2 with|false=>cases ho|true=>?_
 rw[vQ (z:=0) hk]at e;unfold DB at e;rw[h4,h2,hf]at e;exact e
theorem aDy{o2:Bool}(e:DB s f (bl.drop k) ls ps bs=R)(hk:k<bl.length)(h4:((s.node (bl.getD k 0)).kind==4)=false)(h2:((s.node (bl.getD k 0)).kind != 2)=false)(ho:(!o2)=true)(hf:f (bl.getD k 0) bs=(o2,l2,p2,b2)):R=(false,[],[],b2):=by
 cases o2 with|true=>cases ho|false=>?_
 rw[vQ (z:=0) hk]at e;unfold DB at e;rw[h4,h2,hf]at e;exact e.symm
theorem aJ4(e:DB s f (bl.drop k) ls ps bs=R)(hk:¬k<bl.length):R=(true,ls,ps,bs):=by
 rw[List.drop_of_length_le (by omega)]at e;exact e.symm
structure PlC(s:St)(ls:List FH)(y:FH):Prop where
 m:y.m=(cX s y.i).1
 ok:(cX s y.i).2=true
 on:(s.node y.m).kind=3->∀b∈(s.node y.m).aA,(s.node b).kind=2->∃z∈ls,z.i=b
theorem PlC.mono{ls ls':List FH}{y:FH}(h:PlC s ls y)(k:∀z∈ls,z∈ls'):PlC s ls' y:=
 ⟨h.m,h.ok,λh3 b hb h2=>by obtain⟨z,hz,e⟩:=h.on h3 b hb h2;exact⟨z,k z hz,e⟩⟩
def PlG(s:St)(i:Int)(ls:List FH):Prop:=(∃x l',ls=x::l'/\x.i=i)/\∀y∈ls,PlC s ls y
theorem OD(hf:∀b bs l2 p2 b2,f b bs=(true,l2,p2,b2)->PlG s b l2):∀(bl:List Int) (ls:List FH) (ps:List bA) (bs:List Bool) {ls':List FH} {ps':List bA} {bs':List Bool},DB s f bl ls ps bs=(true,ls',ps',bs')->∃l2,ls'=ls++l2/\(∀y∈l2,PlC s l2 y)/\∀b∈bl,(s.node b).kind=2->∃z∈l2,z.i=b
 |[],ls,ps,bs,ls',ps',bs',h=>by
  cases h
  exact⟨[],(OE _).symm,λy hy=>absurd hy (by simp),λb hb=>absurd hb (by simp)⟩
 |b::bl,ls,ps,bs,ls',ps',bs',h=>by
  unfold DB at h
  cases h4:(s.node b).kind==4 with
  |true=>
   rw[h4]at h
   obtain⟨l2,e1,e2,e3⟩:=OD hf bl _ _ _ h
   refine⟨l2,e1,e2,λb' CU h2=>?_⟩
   rcases List.mem_cons.1 CU with rfl|CU
   ·exact absurd (eq_of_beq h4) (by rw[h2];decide)
   ·exact e3 b' CU h2
  |false=>
   rw[h4]at h
   cases h2:(s.node b).kind != 2 with
   |true=>rw[h2]at h;cases h
   |false=>
    rw[h2]at h
    obtain⟨ok,l1,p1,b1⟩:PlR:=f b bs
    cases hr:f b bs with
    |mk ok R=>
     obtain⟨l1,p1,b1⟩:=R
     rw[hr]at h
     cases ok with
     |false=>cases h
     |true=>
      obtain⟨l2,e1,e2,e3⟩:=OD hf bl _ _ _ h
      obtain⟨⟨x,l',e4,e5⟩,e6⟩:=hf b bs l1 p1 b1 hr
      refine⟨l1++l2,by rw[e1,zA],λy hy=>?_,λb' CU hk=>?_⟩
      ·rcases List.mem_append.1 hy with hy|hy
       ·exact(e6 y hy).mono λz hz=>List.mem_append.2 (.inl hz)
       ·exact(e2 y hy).mono λz hz=>List.mem_append.2 (.inr hz)
      ·rcases List.mem_cons.1 CU with rfl|CU
       ·exact⟨x,List.mem_append.2 (.inl (by rw[e4];exact PQ)),e5⟩
       ·obtain⟨z,hz,e⟩:=e3 b' CU hk
        exact⟨z,List.mem_append.2 (.inr hz),e⟩
theorem G5:∀(d:Nat) (i a:Int) (bs:List Bool) (ls:List FH) (ps:List bA) (bs':List Bool),Ll s d i a bs=(true,ls,ps,bs')->PlG s i ls
 |0,i,a,bs,ls,ps,bs',h=>by cases h
 |d+1,i,a,bs,ls,ps,bs',h=>by
  unfold Ll at h
  cases hb:(cX s i).2 with
  |false=>rw[hb]at h;cases h
  |true=>
   rw[hb]at h
   cases hs:bs.getD i.toNat false with
   |true=>rw[hs]at h;cases h
   |false=>
    rw[hs]at h
    cases h5:(s.node (cX s i).1).kind==5 with
    |true=>
     rw[h5]at h
     cases h
     refine⟨⟨_,_,rfl,rfl⟩,λy hy=>?_⟩
     obtain rfl:=List.mem_singleton.1 hy
     exact⟨rfl,hb,λh3=>absurd (eq_of_beq h5) (by rw[h3];decide)⟩
    |false=>
     rw[h5]at h
     cases h6:(s.node (cX s i).1).kind==6 with
     |true=>
      rw[h6]at h
      cases h
      refine⟨⟨_,_,rfl,rfl⟩,λy hy=>?_⟩
      obtain rfl:=List.mem_singleton.1 hy
      exact⟨rfl,hb,λh3=>absurd (eq_of_beq h6) (by rw[h3];decide)⟩
     |false=>
      rw[h6]at h
      obtain⟨l2,e1,e2,e3⟩:=OD (λb bs l2 p2 b2 hf=>G5 d b i bs l2 p2 b2 hf) _ _ _ _ h
      subst e1
      refine⟨⟨_,_,rfl,rfl⟩,λy hy=>?_⟩
      rcases List.mem_cons.1 hy with rfl|hy
      ·exact⟨rfl,hb,λ_ b CU h2=>by obtain⟨z,hz,e⟩:=e3 b CU h2;exact⟨z,VY _ hz,e⟩⟩
      ·exact(e2 y hy).mono λz hz=>VY _ hz
def Xo(s:St)(t:aX):Bool×List FH×List bA:=
 bif !(rootOf s t).2||!(Ll s 12 (rootOf s t).1 0 (List.replicate (s.aG.length+3) false)).1 then(false,[],[])else((Ll s 12 (rootOf s t).1 0 (List.replicate (s.aG.length+3) false)).1,(Ll s 12 (rootOf s t).1 0 (List.replicate (s.aG.length+3) false)).2.1,(Ll s 12 (rootOf s t).1 0 (List.replicate (s.aG.length+3) false)).2.2.1)
variable{t:aX}
theorem ZW(h:(rootOf s t).2=false):Xo s t=(false,[],[]):=by unfold Xo;rw[h];rfl
theorem RQ{ok:Bool}{ls:List FH}{ps:List bA}{bs:List Bool}{n:Nat}(h:(rootOf s t).2=true)(hn:n=s.aG.length+3)(ho:(!ok)=false)(e:Ll s 12 (rootOf s t).1 0 (List.replicate n false)=(ok,ls,ps,bs)):Xo s t=(ok,ls,ps):=by subst hn;unfold Xo;rw[h,e];simp only[ho];rfl
theorem aBt{ok:Bool}{ls:List FH}{ps:List bA}{bs:List Bool}{n:Nat}(h:(rootOf s t).2=true)(hn:n=s.aG.length+3)(ho:(!ok)=true)(e:Ll s 12 (rootOf s t).1 0 (List.replicate n false)=(ok,ls,ps,bs)):Xo s t=(false,[],[]):=by subst hn;unfold Xo;rw[h,e];simp only[ho];rfl
theorem OK(h:(Xo s t).1=true):(rootOf s t).2=true/\PlG s (rootOf s t).1 (Xo s t).2.1:=by
 cases hr:(rootOf s t).2 with
 |false=>rw[ZW hr]at h;cases h
 |true=>
  cases hp:Ll s 12 (rootOf s t).1 0 (List.replicate (s.aG.length+3) false)with
  |mk ok R=>
   obtain⟨ls,ps,bs⟩:=R
   cases ok with
   |false=>rw[aBt hr rfl rfl hp]at h;cases h
   |true=>
   rw[RQ hr rfl rfl hp]at h ⊢
   exact⟨rfl,G5 _ _ _ _ _ _ _ hp⟩
structure Dr(s:St)(t:aX):Prop where
 ok:(Xo s t).1=true
 pr:∀x∈(Xo s t).2.1,rZ s x.i=0
 kd:(s.node (s.load t.root).2).kind=2
theorem Dr.q(h:Dr s t):aE1 s t:=by
 obtain⟨h1,⟨x,l',e,e2⟩,_⟩:=OK h.ok
 have:=h.pr x (by rw[e];exact PQ)
 rw[e2]at this
 exact⟨h1,this,h.kd⟩
theorem LG{i:Int}(h:rZ s i=0)(hb:(cX s i).2=true):(cX s i).1=wB s i:=by
 obtain⟨hk,_⟩:=GF hb
 unfold cX at hb ⊢
 rw[show ((s.node i).kind != 2)=false by rw[hk];rfl]at hb ⊢
 simp only[fN]at hb ⊢
 cases h2:(s.node (wB s i)).bG with
 |false=>rw[h2]at hb;cases hb
 |true=>rw[h];rfl
theorem aDc{n:Node}{i:Int}(h:(aB n i).2=true):(aB n i).1∈n.aA:=by
 unfold aB at h ⊢
 split at h
 ·cases h
 ·rename_i hc
  rw[if_neg hc]
  simp only[not_or,Uy]at hc
  obtain⟨b1,b2⟩:=iJ hc.1
  have hp:=Ig hc.2
  show n.aA.getD (Bm.aN n.aC i) 0∈n.aA
  rw[cK,fV (by omega)]
  exact uY _
theorem Dr.cq(h:Dr s t)(ht:∀x∈(Xo s t).2.1,(s.node x.m).kind≠5):Cq s λi=>∃x∈(Xo s t).2.1,x.i=i:=by
 obtain⟨h1,_,hc⟩:=OK h.ok
 have hm:∀x∈(Xo s t).2.1,x.m=MS s x.i:=λx hx=>((hc x hx).m).trans (LG (h.pr x hx) (hc x hx).ok)
 refine⟨?_,?_,?_⟩
 ·rintro i ⟨x,hx,rfl⟩;exact h.pr x hx
 ·rintro i ⟨x,hx,rfl⟩;rw[<- hm x hx];exact ht x hx
 ·rintro i ⟨x,hx,rfl⟩ ix hb hk
  have hC:=lX hb
  rw[<- hm x hx]at hb hk hC ⊢
  exact(hc x hx).on hC _ (aDc hb) hk
structure VR(S0:St)(t:I Result)(q:Bool)(z:Nat):Prop where
 le:z<=935
 run:∀i,i<z->(alone (t.head S0).1 (t.head S0).2 i).2.ended.isSome=false
 fin:(alone (t.head S0).1 (t.head S0).2 z).2.ended.isSome=true
 rm:∀i,i<=z->Rm 101 (alone (t.head S0).1 (t.head S0).2 i).1
 low:S0.aG.length<=(alone (t.head S0).1 (t.head S0).2 z).1.aG.length
 cnt:q=true->Kq S0.aG (alone (t.head S0).1 (t.head S0).2 z).1 13 12 2 1
theorem VR.of{S0:St}{t:I Result}{q:Bool}{Q:Result->St->Prop}{n j:Nat}(hf:cL S0)(hz:S0.size<=80000000000)(h:t.Al Q n j S0)(hn:n<=935)(hj:j<=961)(hQ:q=true->∀r s',Q r s'->Kq S0.aG s' 13 12 2 1):∃z,VR S0 t q z:=by
 obtain⟨i,hi,hG,hr,ha⟩:=Al.head h
 obtain⟨z,hzn,hg,Hw,r,e1,e2,e3⟩:=Al.run n (j-i) _ _ ha hr
 have a1:=hG.nodes;have a2:=hG.more;have a3:=hG.size;have a4:=hG.acc
 have Tx:=hg z (aW z)
 have b1:=Tx.nodes;have b2:=Tx.more
 refine⟨z,by omega,Hw,by rw[e1];rfl,λk hk=>?_,by omega,λhq=>hQ hq r _ e2⟩
 have c:=hg k hk
 have c3:=c.size
 exact⟨c.fit (hG.fit hf),by unfold cW;omega⟩
theorem l7{c:Call}(h:c.kind=8):jC c FU=Ul c FU:=by
 unfold jC
 rw[h,if_neg (by decide),if_pos (by decide)]
theorem I8{c:Call}{q:Bool}(hT:Tw g s)(hc:nQ g c)(h:c.kind=8)(hf:cL s)(hz:s.size<=80000000000)(hq:q=true->Dr s c.aF/\∀x∈(Xo s c.aF).2.1,(s.node x.m).kind≠5):∃z,VR s (jC c FU) q z:=by
 rw[l7 h]
 have eR:=hc.ro (.inl h)
 cases q with
 |false=>exact VR.of hf hz (aIh eR hT hc.aF) (aW _) (aW _) λh=>by cases h
 |true=>
  obtain⟨hL,ht⟩:=hq rfl
  obtain⟨h1,⟨x,l',e,e2⟩,_⟩:=OK hL.ok
  have er:(rootOf s c.aF).1=rd s c.aF.root:=by
   have eD:Ce s c.aF=rd s c.aF.root:=by
    unfold Ce
    rw[show ((s.node (s.load c.aF.root).2).kind==8)=false by rw[hL.kd];rfl];rfl
   unfold rootOf
   rw[eD,show ((s.node (rd s c.aF.root)).kind != 2)=false by rw[show (s.node (rd s c.aF.root)).kind=2 from hL.kd];rfl];rfl
  exact VR.of hf hz (aNb eR hT hc.aF (hL.cq ht) hL.kd ⟨x,by rw[e];exact PQ,e2.trans er⟩) (by omega) (by omega) λ_ r s' h=>h
end Go.Ct
end
section
namespace Go.Ct
def a7T:aX:=(lY {}).2
def a7C:Call:={kind:=8,aF:=a7T,aI:=63,key:=⟨#[97]⟩,value:=7}
def PG:St:=(lY {}).1
def a7S:St:={PG with acc:=0}
def zY:Nat->St×I Result
 |0=>(Ul a7C 1001).head a7S
 |i+1=>(zY i).2.step (zY i).1
theorem V4:∀i,i<8->(zY i).2.ended.isSome=false:=by decide+kernel
theorem aAa:(zY 8).2.ended.isSome=true:=by decide+kernel
theorem U2:(zY 8).2.ended=some {count:=1}:=by decide+kernel
set_option maxRecDepth 100000
instance aTm(n:Node)(L:Nat):Decidable (n.Fit L):=by unfold Node.Fit Node.fits;infer_instance
theorem CA:∀i,i<9->∀n∈(zY i).1.aG,n.Fit (zY i).1.aG.length:=by decide+kernel
theorem So:∀i,i<9->(zY i).1.size<=1000:=by decide+kernel
theorem aF6(i:Nat)(h:i<9):Rm 101 (zY i).1:=⟨CA i h,by have:=So i h;unfold cW;omega⟩
theorem RS:∀n∈a7S.aG,n.Fit a7S.aG.length:=by decide+kernel
theorem d6:a7S.size<=1000:=by decide+kernel
theorem aE7:Rm 60 a7S:=⟨RS,by have:=d6;unfold cW;omega⟩
theorem Y9:cL PG:=RS
theorem C8:PG.size<=1000:=by decide+kernel
theorem OC:lB PG:=⟨by decide+kernel,by decide+kernel,by decide+kernel,by decide+kernel,by decide+kernel,by decide+kernel,by decide+kernel⟩
theorem OG:lB (zY 8).1:=⟨by decide+kernel,by decide+kernel,by decide+kernel,by decide+kernel,by decide+kernel,by decide+kernel,by decide+kernel⟩
theorem aDi:Xo (zY 8).1 a7T=(true,[⟨4,6,0,0⟩],[⟨⟨#[97]⟩,7⟩]):=by kernel_rfl
theorem Z8(r:Int):((zY 8).1.node r).kind=3->((zY 8).1.node r).aA.length=Bm.pop 64 ((zY 8).1.node r).aC:=by
 have key:∀n∈(zY 8).1.aG,n.kind=3->n.aA.length=Bm.pop 64 n.aC:=by decide+kernel
 unfold St.node
 split
 ·exact λh=>absurd h (by decide)
 ·split
  ·exact λh=>absurd h (by decide)
  ·by_cases hr:r.toNat-3<(zY 8).1.aG.length
   ·rw[cK,fV hr];exact key _ (uY hr)
   ·rw[cK,List.getElem?_eq_none (by omega)];exact λh=>absurd h (by decide)
end Go.Ct
end
section
namespace Go.E
open Go.RowKit
variable{B w:World}{L:List As}
theorem SH.WJ{e:TypeId}{sz n:Nat}{v:Value}{xs:List Value}(h:SH B w (aV e sz v n xs::L)):SH B w (bS sz v n xs::L):=
 h.wk λO R hA=>⟨λ_=>False,λk=>v.ownBlock=some k,⟨⟨hA.1.1,by
  rcases hA.1.2 with hn|⟨g,cap,cur,rfl,hb,hg,h1,h2,_⟩
  ·exact .inl hn
  ·exact .inr ⟨g,0,cap,rfl,(Array.getElem?_eq_some_iff.1 hg).1,h1,h2,(NV hA).2⟩⟩,λk h=>h,λk=>Iff.rfl⟩,λk h=>h.elim,λk hk=>.inl ((hA.2.1 k).2 hk)⟩
theorem a16{α:Type}{x0 x1 x2 x3 x4 x5 x6 x7 x8 x9 Db Jy Ue JP ZG x15 x16:α}{l:List α}:At (x0::x1::x2::x3::x4::x5::x6::x7::x8::x9::Db::Jy::Ue::JP::ZG::x15::x16::l) x16:=.s a15
end Go.E
namespace Go.Q9
open Go.RowKit Go.E
structure BL where
 i:Int:=0
 m:Int:=0
 a:Int:=0
 l:Int:=0
 wp:Option Addr:=none
 wn:Nat:=0
 wc:Nat:=0
def Ih(x:BL):List Value:=[↑x.i,↑x.m,↑x.a,↑x.l,.slice x.wp x.wn x.wc]
theorem IZ(x:BL):(Ih x).length=5:=rfl
theorem F3(x:BL):(Ih x).all Value.oneCell'=true:=rfl
def Xn(l:List Bool):Nat:=l.count false
theorem tZ{l:List Bool}{j:Nat}(hj:j<l.length)(h:l.getD j false=false):Xn (l.set j true)+1=Xn l:=by
 induction l generalizing j with
 |nil=>cases hj
 |cons b l ih=>
  cases j with
  |zero=>
   have:b=false:=h
   subst this
   simp[Xn]
  |succ j=>
   have:=ih (j:=j) (by simpa using hj) (by simpa using h)
   simp only[Xn,List.set_cons_succ,List.count_cons]at this ⊢
   omega
theorem Dt(l:List Bool):Xn l<=l.length:=List.count_le_length
def WO(x:BL):Ct.FH:=⟨x.i,x.m,x.a,x.l⟩
structure PlQ(s:Ct.St)(d:Nat)(i a:Int)(bs:List Bool)(ok:Bool)(ls:List BL)(ps:List Ct.bA)(bs':List Bool):Prop where
 fn:Ct.Ll s d i a bs=(ok,ls.map WO,ps,bs')
 xT:ls.length+Xn bs'<=Xn bs
 aH:ps.length+1000000*Xn bs'<=1000000*Xn bs
 len:bs'.length=bs.length
theorem PlQ.no{s:Ct.St}{d:Nat}{i a:Int}{bs bs':List Bool}(e:Ct.Ll s d i a bs=(false,[],[],bs'))(h:Xn bs'<=Xn bs)(hl:bs'.length=bs.length):PlQ s d i a bs false [] [] bs':=
 ⟨e,by show 0+Xn bs'<=_;omega,by show 0+_<=_;omega,hl⟩
theorem WC{s:Ct.St}{t:Ct.aX}{ok:Bool}{ls:List BL}{ps:List Ct.bA}{k:Nat}(e:Ct.Xo s t=(ok,ls.map WO,ps))(h1:ok=true)(hk:ls.length<=k)(h2:∀j,j<k->Ct.rZ s (ls.getD j {}).i=0)(h3:(s.node (s.load t.root).2).kind=2):Ct.Dr s t:=by
 refine⟨by rw[e];exact h1,λx hx=>?_,h3⟩
 rw[e]at hx
 obtain⟨y,hy,rfl⟩:=List.mem_map.1 hx
 obtain⟨j,hj,rfl⟩:=List.getElem_of_mem hy
 have hz:=h2 j (by omega)
 rw[cK,fV hj]at hz
 exact hz
theorem d9{s:Ct.St}{t:Ct.aX}{ok:Bool}{ls:List BL}{ps:List Ct.bA}{k:Nat}(e:Ct.Xo s t=(ok,ls.map WO,ps))(hk:ls.length<=k)(h2:∀j,j<k->(s.node (ls.getD j {}).m).kind≠5):∀x∈(Ct.Xo s t).2.1,(s.node x.m).kind≠5:=λx hx=>by
 rw[e]at hx
 obtain⟨y,hy,rfl⟩:=List.mem_map.1 hx
 obtain⟨j,hj,rfl⟩:=List.getElem_of_mem hy
 have hz:=h2 j (by omega)
 rw[cK,fV hj]at hz
 exact hz
theorem IE{P:Nat->Prop}{k:Nat}(h:∀j,j<k->P j)(hz:P k):∀j,j<k+1->P j:=λj hj=>by
 rcases Gg j k with Em|Em
 ·exact h j Em
 ·obtain rfl:j=k:=by omega
  exact hz
theorem n0{a:Prop}{P:Nat->Prop}{k:Nat}(h:a/\∀j,j<k->P j)(hz:P k):a/\∀j,j<k+1->P j:=⟨h.1,IE h.2 hz⟩
theorem LS{zs ys:List (Ct.Node×Lq)}{s s':Ct.St}{xs:List Ct.Node}(h:ys.map Prod.fst=aZ s')(hz:zs.length=2+s.aG.length)(hx:s'.aG=s.aG++xs):(ys.drop zs.length).map Prod.fst=xs:=by
 rw[List.map_drop,h,hz]
 show List.drop (2+s.aG.length) (Ct.iH::Ct.iH::s'.aG)=xs
 rw[hx,Nat.add_comm,List.drop_succ_cons,List.drop_succ_cons,List.drop_left]
theorem Yg{ds:List (Ct.Node×Lq)}{k:Nat}(hk:k<ds.length):(ds.getD k ({},{})).1=(ds.map Prod.fst)[k]'(by rw[vX];exact hk):=by
 rw[cK,fV hk,List.getElem_map];rfl
theorem X0{ds:List (Ct.Node×Lq)}{xs:List Ct.Node}{C I S L k:Nat}(e:ds.map Prod.fst=xs)(hm:Ct.Mk xs C I S L)(hk:k<ds.length):∃kk:Nat,(ds.getD k ({},{})).1.kind=(kk:Int)/\kk<10:=by
 subst e
 have:=hm.nk _ (uY (by rw[vX];exact hk):(ds.map Prod.fst)[k]'(by rw[vX];exact hk)∈_)
 rw[Yg hk]
 exact⟨((ds.map Prod.fst)[k]'(by rw[vX];exact hk)).kind.toNat,by omega,by omega⟩
def UT(ds:List (Ct.Node×Lq))(k:Nat)(cs:List Int):Prop:=cs.length=10/\∀j,j<10->cs.getD j 0=((Ct.cn (j:Int) ((ds.take k).map Prod.fst):Nat):Int)
theorem ZQ{ds:List (Ct.Node×Lq)}:UT ds 0 (List.replicate 10 0):=⟨NU ..,λj hj=>by
 rw[cK,List.getElem?_replicate,if_pos hj];rfl⟩
theorem X3{ds:List (Ct.Node×Lq)}{k kk:Nat}{cs:List Int}(h:UT ds k cs)(hk:kk<10):∃cc:Nat,cs.getD kk 0=(cc:Int)/\cc<=ds.length:=⟨_,h.2 kk hk,by
 refine kR (List.countP_le_length) ?_
 rw[vX,lI];exact Nat.min_le_right ..⟩
theorem I3{ds:List (Ct.Node×Lq)}{k kk cc:Nat}{cs:List Int}(h:UT ds k cs)(hk:k<ds.length)(e:(ds.getD k ({},{})).1.kind=(kk:Int))(Bz:kk<10)(hc:cs.getD kk 0=(cc:Int)):UT ds (k+1) (cs.set kk (cs.getD kk 0+1)):=by
 rw[hc,show (cc:Int)+1=((cc+1:Nat):Int)from rfl]
 refine⟨by rw[tS];exact h.1,λj hj=>?_⟩
 have et:(ds.take (k+1)).map Prod.fst=(ds.take k).map Prod.fst++[(ds.getD k ({},{})).1]:=by
  rw[Yg hk,List.map_take,List.map_take];exact V9 (by rw[vX];exact hk)
 rw[et,Ct.Dg,Ct.Df,e]
 have hl:=h.1
 rw[cK,List.getElem?_set]
 by_cases Em:kk=j
 ·subst Em
  rw[if_pos rfl,if_pos (by omega),if_pos rfl,<- Int.natCast_inj.mp ((h.2 kk Bz).symm.trans hc)];rfl
 ·rw[if_neg Em,if_neg (by omega),<- cK,h.2 j hj];rfl
theorem U0{ds:List (Ct.Node×Lq)}{xs:List Ct.Node}{k:Nat}{cs:List Int}(h:UT ds k cs)(hk:ds.length<=k)(e:ds.map Prod.fst=xs)(hm:Ct.Mk xs 13 12 2 1):cs.getD 3 0<=13/\cs.getD 2 0<=12/\cs.getD 4 0<=2/\cs.getD 6 0<=1/\cs.getD 5 0=0/\cs.getD 7 0=0:=by
 have h2:=h.2
 rw[xW hk,e]at h2
 have a3:=h2 3 (by decide);have a2:=h2 2 (by decide);have a4:=h2 4 (by decide);have a6:=h2 6 (by decide);have a5:=h2 5 (by decide);have a7:=h2 7 (by decide)
 have b3:=hm.nc;have b2:=hm.ni;have b4:=hm.ns;have b6:=hm.nl;have b5:=hm.nt;have b7:=hm.nf
 refine⟨by rw[a3];exact_mod_cast b3,by rw[a2];exact_mod_cast b2,by rw[a4];exact_mod_cast b4,by rw[a6];exact_mod_cast b6,by rw[a5];exact_mod_cast b5,by rw[a7];exact_mod_cast b7⟩
end Go.Q9
end
section
namespace Go.Q9
open Go.E
end Go.Q9
end
