/- Parts of a proof: Sa4, Sa5, Sp, Qp, Nb, Sa7, Sa6. -/
import Derived.Test.YtnhdmcipglnkfaaGreatW23
set_option linter.unusedVariables false
set_option linter.unusedSimpArgs false
set_option maxRecDepth 100000
set_option maxHeartbeats 4000000
section
namespace Go.Ct
variable{g:Ga}
theorem F7{n:Node}{b:eC}(hn:bT g n b)(hk:n.kind=6):n.Tq=true:=by unfold Node.Tq;rw[hk,hn.valid];rfl
theorem m6{n:Node}{b:eC}{key:ByteArray}{v:Nat}(hn:bT g n b)(hk:n.kind=6)(hs:key.size<=64):bT g (grown n key v).1 b/\(grown n key v).2=true/\(grown n key v).1.bG=true:=by
 have hL:=F7 hn hk
 have vf:=iW hn.valid
 rw[ON hL (by omega)]
 have hp:=vf.pJ hk
 have h2:=vf.aH hk
 refine⟨BV hn.hash (by have:=(HF n.aH key v hp).1;omega) (Lh _ _ _ hp) (λq hq=>Xy n.aH key v (λk=>k.size<=64) ((lO _).1 (vf.short hk)) hs q hq) (hn.l hk),rfl,rfl⟩
structure Kl(g:Ga)(again:I Result)(k':Result×Int->I Result):Prop where
 fin:∀g',Ge g g'->GW g'->∀r:Result,r.aF={}->Sm (.ret r) (k' (r,1)) g'
 PV:∀g',Ge g g'->GW g'->∀r,Sm again (k' (r,0)) g'
theorem Kl.ge{again:I Result}{k':Result×Int->I Result}{g':Ga}(h:Kl g again k')(hg:Ge g g'):Kl g' again k':=⟨λg2 h2=>h.fin g2 (hg.trans h2),λg2 h2=>h.PV g2 (hg.trans h2)⟩
variable{c:Call}{again:I Result}{k':Result×Int->I Result}
theorem LO{f:Bool}{v:Nat}(hw:GW g)(hk:Kl g again k')(ok:Bool):Sm (bif !ok then again else .ret (dL f v)) ((mH f v ok).bind k') g:=by
 cases ok with
 |true=>exact hk.fin g (Ge.refl hw) hw _ rfl
 |false=>exact hk.PV g (Ge.refl hw) hw _
theorem BN{i m:Int}{n:Node×Bool}{f:Bool}{v:Nat}{b:eC}(hw:GW g)(ht:Tk g c.aF)(hi:fH g i b)(hm:rU g m b)(hn:bT g n.1 b/\n.2=true/\n.1.bG=true)(hk:Kl g again k'):
  Sm (Ci c again i m n f v) ((I.alloc n.1 m λr=>(pD c.aF i m r).bind (mH f v)).bind k') g:=by
 refine Sm.ff (by rw[hn.2.1];rfl) (.alloc b hn.1 (lP hn.2.2 (.inr hm)) λh1 iY=>?_)
 refine Sm.as9 (u:=pD c.aF i m _) (Mv iY (ht.ge h1) (hi.ge h1) (fW hw hn.2.2) λg2 h2 tU ok=>?_)
 exact LO tU (hk.ge (h1.trans h2)) ok
theorem DX{i m ix r:Int}{n:Node}{f:Bool}{v:Nat}{b:eC}(hw:GW g)(ht:Tk g c.aF)(hi:fH g i b)(hm:rU g m b)(he:n=g.node m)(hl:(aB n ix).2=true)(hr:fH g r (eA b ix)\/Ij g r (eA b ix))(hk:Kl g again k'):
  Sm (Ci c again i m (aM n ix r) f v) (((rK m ix r).bind λr=>(pD c.aF i m r).bind (mH f v)).bind k') g:=by
 subst he
 unfold rK
 refine .nr hm.bX ?_
 exact BN hw ht hi hm (qE (hw.ofM hm.m) (lX hl) hl hr) hk
theorem Tb{h v:Nat}{key:ByteArray}{ix:Int}{b:eC}(e:eA b ix=(b.1+1,h%64^(b.1+1))):Ij (g.alloc {kind:=4,hash:=h,key:=key,value:=v} 0 (0,0)) (g.nodes.length+3) (eA b ix):=
 Af rfl (by rw[e])
theorem OS(a b:ByteArray):bO a b=bO b a:=by unfold bO;exact Bool.beq_comm
theorem LN{i m:Int}{h:Nat}{level gen:Int}{b:eC}(hw:GW g)(ht:Tk g c.aF)(hi:fH g i b)(hm:rU g m b)(DI:(g.node m).kind=6)(kP:c.key.size<=64)(hk:Kl g again k'):
  Sm (lF c again i m (g.node m)) ((nR c i m h level gen).bind k') g:=by
 unfold lF nR
 refine .nr hm.bX ?_
 dsimp only
 rw[show ((g.node m).kind==6)=true by rw[DI];rfl]
 cases hp:cB c (bN (g.node m).aH c.key).2 (bN (g.node m).aH c.key).1 with
 |false=>exact hk.fin g (Ge.refl hw) hw _ rfl
 |true=>exact BN hw ht hi hm (m6 (hw.ofM hm.m) DI kP) hk
theorem BJ(g:Ga):(0:Int)<=g.count:=by unfold Ga.count;omega
theorem w9{i m:Int}{h l:Nat}{gen:Int}(hw:GW g)(ht:Tk g c.aF)(hi:fH g i (l,h%64^l))(hm:rU g m (l,h%64^l))(oO:(g.node m).kind=3)(hl:(aB (g.node m) (slice h l)).2=false)(hh:h<18446744073709551616)(kP:c.key.size<=64)(hk:Kl g again k'):
  Sm (mL c again h i m (g.node m) (slice h l)) ((nR c i m h l gen).bind k') g:=by
 unfold mL nR
 refine .nr hm.bX ?_
 dsimp only
 have hz:(aB (g.node m) (slice h l)).1=0:=by
  rcases FO hl with q|q
  ·rw[AN q]
  ·rw[Jj q]
 rw[show ((g.node m).kind==6)=false by rw[oO];rfl,hl,hz]
 refine .nr (BJ g) ?_
 have wG:=((hw.ofM hm.m).c oO).1
 have hs:=Gi h l
 cases hp:cB c false 0 with
 |false=>exact hk.fin g (Ge.refl hw) hw _ rfl
 |true=>
  refine .alloc (0,0) (Jh (.inl rfl) hh kP (λh=>by cases h)) (vJ (.inl rfl)) λh1 iY=>?_
  exact BN iY (ht.ge h1) (hi.ge h1) (hm.ge h1) (zL ((hw.ofM hm.m).ge h1) oO hl hs.1 hs.2 (.inr (Tb (dP wG)))) (hk.ge h1)
theorem UJ{i m:Int}{h l:Nat}{gen:Int}(hw:GW g)(ht:Tk g c.aF)(hi:fH g i (l,h%64^l))(hm:rU g m (l,h%64^l))(hl:(aB (g.node m) (slice h l)).2=true)(hs:Ij g (aB (g.node m) (slice h l)).1 (eA (l,h%64^l) (slice h l)))(hh:h<18446744073709551616)(kP:c.key.size<=64)
  (Mm:1<=gen) (hg:gen<=g.gen) (hk:Kl g again k'):
  Sm (gJ c again h i m (g.node m) (slice h l) (aB (g.node m) (slice h l)).1 (g.node (aB (g.node m) (slice h l)).1) l gen) ((nR c i m h l gen).bind k') g:=by
 have oO:=lX hl
 have wG:=((hw.ofM hm.m).c oO).1
 have ed:=dP (h:=h) (l:=l) wG
 generalize hb:(aB (g.node m) (slice h l)).1=b at *
 unfold gJ nR
 refine .nr hm.bX ?_
 dsimp only
 rw[show ((g.node m).kind==6)=false by rw[oO];rfl,hl,hb]
 refine .nr hs.bX ?_
 dsimp only
 rw[show ((g.node b).kind==2)=false by rw[hs.1];rfl]
 cases hq:bO (g.node b).key c.key with
 |true=>
  cases hp:cB c true (g.node b).value with
  |false=>exact hk.fin g (Ge.refl hw) hw _ rfl
  |true=>
   refine .alloc (0,0) (Jh (.inl rfl) hh kP (λh=>by cases h)) (vJ (.inl rfl)) λh1 iY=>?_
   exact DX iY (ht.ge h1) (hi.ge h1) (hm.ge h1) (by rw[h1.node hm.bX]) hl (.inr (Tb ed)) (hk.ge h1)
 |false=>
  cases hp:cB c false 0 with
  |false=>exact hk.fin g (Ge.refl hw) hw _ rfl
  |true=>
   refine Sm.ff rfl ?_
   unfold uW
   rw[show (decide ((l:Int)+1<0)||(decide ((l:Int)+1>11)||decide (gen<1)))=false by simp;omega]
   refine Sm.ff rfl (.nl hs.bX ?_)
   rw[show ((g.node b).kind != 4)=false by rw[hs.1];rfl,show decide (64<c.key.size)=false from cI (by omega),OS,hq]
   have hS:Ij g b (l+1,h%64^(l+1)):=by rw[<- ed];exact hs
   have hcg:=Ya (a:=(g.node b).hash) (b:=h) (c:=l+1) hS.2 (by omega)
   refine Sm.ff rfl (Sm.ff (cI (by omega)) ?_)
   rw[show (11-((l:Int)+1)).toNat=11-(l+1) by omega]
   refine Sm.as9 (u:=rM (g.node b) b h c.key c.value ((l+1:Nat):Int) gen) (W2 hw rfl hS (by omega) hh kP hq Mm hg λg1 h1 iY s hs1=>?_)
   refine Sm.ff rfl (.alloc (l+1,h%64^(l+1)) (nU Mm (by have:=h1.gen;omega) (by show l+1<=11;omega)) ⟨λ_=>hs1,(λh=>by cases h),λh=>by cases h⟩ λh2 tU=>?_)
   have hI:=mX iY (n:={kind:=2,gen:=gen}) (i:=s) (b:=(l+1,h%64^(l+1))) rfl
   have xZ:=h1.trans h2
   exact DX tU (ht.ge xZ) (hi.ge xZ) (hm.ge xZ) (by rw[xZ.node hm.bX]) hl (.inl (by rw[ed];exact hI)) (hk.ge xZ)
end Go.Ct
end
section
namespace Go.Ct
variable{g:Ga}
structure Kv(g:Ga)(again:I Result)(K:Option Result->I Result):Prop where
 fin:∀g',Ge g g'->GW g'->∀r:Result,r.aF={}->Sm (.ret r) (K (some r)) g'
 PV:∀g',Ge g g'->GW g'->Sm again (K none) g'
theorem Kv.ge{again:I Result}{K:Option Result->I Result}{g':Ga}(h:Kv g again K)(hg:Ge g g'):Kv g' again K:=⟨λg2 h2=>h.fin g2 (hg.trans h2),λg2 h2=>h.PV g2 (hg.trans h2)⟩
variable{c:Call}{again:I Result}{K:Option Result->I Result}
theorem NJ{r:Int}{b:eC}(hw:GW g)(h:fH g r b):1<=(g.node r).gen/\(g.node r).gen<=g.gen:=⟨(iW (hw.RJ h).valid).gen h.1,((hw.RJ h).i h.1).1⟩
theorem GK{i m ix gen:Int}{b:eC}{kp:Int->I Result}{kr:Int->I Result}(hw:GW g)(ht:Tk g c.aF)(hi:fH g i b)(hm:rU g m b)(hl:(aB (g.node m) ix).2=true)(hb:fH g (aB (g.node m) ix).1 (eA b ix))
  (h1:∀g',Ge g g'->GW g'->∀r,fH g' r (eA b ix)->Sm (kp r) (kr r) g') (h0:∀g',Ge g g'->GW g'->Sm again (kr 0) g'):
  Sm (bif (g.node (aB (g.node m) ix).1).gen != gen then oE c.aF i m ix λb=>bif b==0 then again else kp b else kp (aB (g.node m) ix).1) ((vB c.aF i m ix gen).bind kr) g:=by
 unfold vB
 refine .nr hm.bX (.nr hb.bX ?_)
 dsimp only
 cases hg:(g.node (aB (g.node m) ix).1).gen==gen with
 |true=>
  rw[show ((g.node (aB (g.node m) ix).1).gen != gen)=false by unfold bne;rw[hg];rfl]
  exact h1 g (Ge.refl hw) hw _ hb
 |false=>
  rw[show ((g.node (aB (g.node m) ix).1).gen != gen)=true by unfold bne;rw[hg];rfl]
  refine Sm.tt rfl (Sm.rf rfl (H6 hw ht hi hm hl hb λg' hg' lD r hr=>?_))
  rcases hr with rfl|hr
  ·exact h0 g' hg' lD
  ·refine Sm.ff ?_ (h1 g' hg' lD r hr)
   have:=hr.one
   exact beq_eq_false_iff_ne.2 (by omega)
theorem Sl{h:Nat}{gen:Int}(eR:c.aF.readOnly=false)(hh:h<18446744073709551616)(kP:c.key.size<=64)(Mm:1<=gen):∀(n l:Nat) (pa i:Int) (g:Ga),GW g->Tk g c.aF->fH g i (l,h%64^l)->(l=0\/fH g pa (l-1,h%64^(l-1)))->gen<=g.gen->Kv g again K->
  Sm (eE c h gen again n pa i l) ((Pn c h gen n pa i l).bind K) g
 |0,l,pa,i,g,hw,ht,hi,hp,hg,hk=>hk.PV g (Ge.refl hw) hw
 |n+1,l,pa,i,g,hw,ht,hi,hp,hg,hk=>by
  refine Sm.as9 (oV hw ht hi λg1 h1 iY m hm=>?_)
  refine .nl hm.bX (.nr hm.bX ?_)
  dsimp only
  have hn:=iY.ofM hm.m
  have Jx:=hi.ge h1
  have vD:=ht.ge h1
  have hgg:gen<=g1.gen:=by have:=h1.gen;omega
  have hkl:∀(F:Int->I (Option Result)),Kl g1 again λr=>(bif r.2==1 then I.ret (some r.1)else bif r.2==0 then .ret none else(vB c.aF i m (slice h l) gen).bind F).bind K:=λF=>⟨λg' h' lD r hr=>hk.fin g' (h1.trans h') lD r hr,λg' h' lD r=>hk.PV g' (h1.trans h') lD⟩
  rcases nW hm.m with oO|hk5|DI
  ·rw[show ((g1.node m).kind==5)=false by rw[oO];rfl,show ((g1.node m).kind==6)=false by rw[oO];rfl,show ((g1.node m).kind==3)=true by rw[oO];rfl]
   simp only[fN,tV]
   rw[I.bind_assoc]
   cases hl:(aB (g1.node m) (slice h l)).2 with
   |false=>exact w9 iY vD Jx hm oO hl hh kP (hkl _)
   |true=>
    refine Sm.ff rfl ?_
    rcases(hn.c oO).2.2 _ hl with hb|hb
    ·refine .nl hb.bX (Sm.ff (by rw[hb.1];rfl) ?_)
     have wG:=(hn.c oO).1
     have ed:=dP (h:=h) (l:=l) wG
     unfold nR
     refine .nr hm.bX ?_
     dsimp only
     rw[show ((g1.node m).kind==6)=false by rw[oO];rfl]
     refine .nr hb.bX ?_
     dsimp only
     rw[hl,show ((g1.node (aB (g1.node m) (slice h l)).1).kind==2)=true by rw[hb.1];rfl]
     show Sm _ (((vB c.aF i m (slice h l) gen).bind λb=>bif b==0 then .ret none else Pn c h gen n i b ((l:Int)+1)).bind K) g1
     rw[I.bind_assoc]
     refine GK (kp:=λb=>eE c h gen again n i b ((l:Int)+1)) iY vD Jx hm hl hb (λg' h' lD r hr=>?_) λg' h' lD=>hk.PV g' (h1.trans h') lD
     rw[show (r==0)=false from beq_eq_false_iff_ne.2 (by have:=hr.one;omega)]
     rw[ed]at hr
     exact Sl eR hh kP Mm n (l+1) i r g' lD (vD.ge h') hr (.inr (by show fH g' i (l,h%64^l);exact Jx.ge h')) (by have:=h'.gen;omega) (hk.ge (h1.trans h'))
    ·refine .nl hb.bX (Sm.tt (by rw[hb.1];rfl) ?_)
     exact UJ iY vD Jx hm hl hb hh kP Mm hgg (hkl _)
  ·have h1l:=(hn.t hk5).1
   rw[show ((g1.node m).kind==5)=true by rw[hk5];rfl]
   simp only[tV]
   have hp':=(hp.resolve_left (by show ¬l=0;have:1<=l:=h1l;omega)).ge h1
   obtain⟨l',rfl⟩:∃l',l=l'+1:=⟨l-1,by have:1<=l:=h1l;omega⟩
   have aFe:l'+1<=11:=((iY.RJ Jx).i Jx.1).2
   rw[show ((l'+1:Nat):Int)-1=(l':Int) by omega]
   exact Sm.as9 (Oh (b:=(l',h%64^l')) iY vD hp' rfl (.inl (by rw[dP (by omega)];exact Jx)) λg' h' lD ok=>hk.PV g' (h1.trans h') lD)
  ·rw[show ((g1.node m).kind==5)=false by rw[DI];rfl,show ((g1.node m).kind==6)=true by rw[DI];rfl]
   simp only[fN,tV]
   rw[I.bind_assoc]
   exact LN iY vD Jx hm DI kP (hkl _)
theorem Pm{k:Nat}(eR:c.aF.readOnly=false)(kP:c.key.size<=64):∀(n:Nat) (g:Ga),GW g->Tk g c.aF->Sm (aY c k n) (Jf c k n) g
 |0,g,hw,ht=>.ret _ g (q0 rfl)
 |n+1,g,hw,ht=>by
  rw[Yq]
  refine Gz hw ht λg1 h1 iY r hr=>.nl hr.bX (.nr hr.bX ?_)
  obtain⟨a1,a2⟩:=NJ iY hr
  exact Sl eR (eS _ _) kP a1 k 0 0 r g1 iY (ht.ge h1) (by simpa[Nat.mod_one]using hr) (.inl rfl) a2 ⟨λg' h' lD r hr=>.ret _ _ (q0 hr),λg' h' lD=>Pm eR kP n g' lD (ht.ge (h1.trans h'))⟩
end Go.Ct
end
section
namespace Go.Ct
variable{α β:Type}
def I.acc:I α->Acc
 |.load c _=>⟨1,c,0,0⟩
 |.cH c o n _=>⟨2,c,o,n⟩
 |_=>{}
def I.ended:I α->Option α
 |.ret a=>some a
 |_=>none
def I.step:I α->St->St×I α
 |.load c k,s=>(k (s.load c).2).head (s.load c).1
 |.cH c o n k,s=>(k (s.cH c o n).2).head (s.cH c o n).1
 |t,s=>(s,t)
theorem Sh.acc[Qc α]{u u':I α}{g:Ga}(h:Sh u u' g):u.acc=u'.acc/\u.ended=u'.ended:=by cases h<;>exact⟨rfl,rfl⟩
def WY(r:X×Option Result):X:=match r.2 with
 |some v=>{r.1 with e:={r.1.e with done:=true,result:=v}}
 |none=>r.1
def cC(T:I Result)(free:Nat)(x:X):X:=WY (bC T (cE free x))
structure Rest(T u:I Result)(g:Ga)(e:Ex):Prop where
 rp:Rp g T e.eV e.made e.cells e.dU u
 done:e.done=u.ended.isSome
 next:u.ended=none->e.next=u.acc
 res:∀r,u.ended=some r->e.result=r
theorem Rest.ge{T u:I Result}{g g':Ga}{e:Ex}(h:Rest T u g e)(k:Ge g g'):Rest T u g' e:=⟨h.rp.ge k,h.done,h.next,h.res⟩
theorem TH{u u':I Result}{g:Ga}(h:Sh u u' g){x:X}(hx:x=x.atEnd)(hf:x.e.free=0)(hs:x.e.aD=false)(hd:x.e.done=false):
  ∃y,WY (bC u' x)=y/\y.s=x.s/\y.e.eV=x.e.eV/\y.e.made=x.e.made/\y.e.cells=x.e.cells/\y.e.dU=x.e.dU/\y.e.done=u'.ended.isSome/\(u'.ended=none->y.e.next=u'.acc)/\∀r,u'.ended=some r->y.e.result=r:=by
 have ha:x.e.a=x.e.eV.length:=congrArg (λy:X=>y.e.a) hx
 cases h with
 |ret a=>
  rw[V1 hs]
  exact⟨_,rfl,rfl,rfl,rfl,rfl,rfl,rfl,(λh=>by cases h),λr h=>by injection h⟩
 |load τ h1 h2=>
  rw[run_load];unfold eK
  rw[if_neg (by rw[hs];decide),if_neg (by omega),if_pos hf]
  exact⟨_,rfl,rfl,rfl,rfl,rfl,rfl,hd,λ_=>rfl,λr h=>by cases h⟩
 |cH τ h1 hm h2=>
  rw[My];unfold jT
  rw[if_neg (by rw[hs];decide),if_neg (by omega),if_pos hf]
  exact⟨_,rfl,rfl,rfl,rfl,rfl,rfl,hd,λ_=>rfl,λr h=>by cases h⟩
theorem Rest.start{t T:I Result}{g:Ga}(h:Sm t T g)(hw:GW g){x:X}(ht:oS g x.s)(h1:x.e.eV=[])(h2:x.e.made=[])(h3:x.e.cells=[])(h4:x.e.dU=[])(hd:x.e.done=false):
  ∃g' u u',t.head x.s=((cC T 0 x).s,u)/\Ge g g'/\GW g'/\oS g' (cC T 0 x).s/\Sh u u' g'/\Rest T u' g' (cC T 0 x).e/\(cC T 0 x).e.eV=[]/\∀P:Ga->I Result->Prop,Her P->P g t->P g' u:=by
 have hx:cE 0 x=(cE 0 x).atEnd:=by unfold X.atEnd cE;simp only[h1,h2,h3,h4,List.length_nil]
 obtain⟨g',s',u,u',m,d,e,e1,e2,e3,e4,e5,e6,eP,e7,e8⟩:=h.run hw (cE 0 x) hx ht rfl
 obtain⟨y,f0,f1,f2,f3,f4,f5,f6,f7,f8⟩:=TH e6 (x:=(cE 0 x).more s' m d e) rfl rfl rfl hd
 have hy:cC T 0 x=y:=by unfold cC;rw[e8,f0]
 rw[hy]
 refine⟨g',u,u',by rw[f1];exact e1,e3,e4,by rw[f1];exact e5,e6,⟨?_,f6,f7,f8⟩,by rw[f2];exact h1,eP⟩
 rw[f2,f3,f4,f5]
 show Rp g' T x.e.eV (x.e.made++m) (x.e.cells++d) (x.e.dU++e) u'
 rw[h1,h2,h3,h4];exact e7
theorem Rest.step{T u u':I Result}{g:Ga}{x:X}(h:Rest T u' g x.e)(hs:Sh u u' g)(hw:GW g)(ht:oS g x.s)(hd:x.e.done=false):
  ∃g' v v',u.step x.s=((cC T 1 x).s,v)/\Ge g g'/\GW g'/\oS g' (cC T 1 x).s/\Sh v v' g'/\Rest T v' g' (cC T 1 x).e/\(∃a,(cC T 1 x).e.eV=x.e.eV++[a])/\∀P:Ga->I Result->Prop,Her P->P g u->P g' v:=by
 have hr:=h.rp.run (cE 1 x) ht rfl (bZ _) (bZ _) (bZ _) (bZ _) rfl rfl rfl rfl
 have key:∀{g1:Ga} {t t':I Result} {v:Int} {s1:St},Ge g g1->GW g1->oS g1 s1->Sm t t' g1->bC u' (cE 1 x).atEnd=bC t' (mB v s1 (cE 1 x).atEnd)->Rp g1 T (x.e.eV++[v]) x.e.made x.e.cells x.e.dU t'->
   ∃g' w w',t.head s1=((cC T 1 x).s,w)/\Ge g g'/\GW g'/\oS g' (cC T 1 x).s/\Sh w w' g'/\Rest T w' g' (cC T 1 x).e/\(∃a,(cC T 1 x).e.eV=x.e.eV++[a])/\∀P:Ga->I Result->Prop,Her P->P g1 t->P g' w:=by
  intro g1 t t' v s1 Mm iY vD hm hq hp
  have hx:mB v s1 (cE 1 x).atEnd=(mB v s1 (cE 1 x).atEnd).atEnd:=by unfold mB X.atEnd cE;simp
  obtain⟨g',s',w,w',m,d,e,e1,e2,e3,e4,e5,e6,eP,e7,e8⟩:=hm.run iY _ hx vD rfl
  obtain⟨y,f0,f1,f2,f3,f4,f5,f6,f7,f8⟩:=TH e6 (x:=(mB v s1 (cE 1 x).atEnd).more s' m d e) rfl rfl rfl hd
  have hy:cC T 1 x=y:=by unfold cC;rw[hr,hq,e8,f0]
  rw[hy]
  refine⟨g',w,w',by rw[f1];exact e1,Mm.trans e3,e4,by rw[f1];exact e5,e6,⟨?_,f6,f7,f8⟩,⟨v,by rw[f2];rfl⟩,eP⟩
  rw[f2,f3,f4,f5]
  show Rp g' T (x.e.eV++[v]) (x.e.made++m) (x.e.cells++d) (x.e.dU++e) w'
  have:=(hp.ge e3).trans e7
  rwa [OE]at this
 have base:∀{v:Int} {t':I Result} {g1:Ga},Ge g g1->Rp g1 u' [v] [] [] [] t'->Rp g1 T (x.e.eV++[v]) x.e.made x.e.cells x.e.dU t':=λhg hp=>by
  have:=(h.rp.ge hg).trans hp
  simpa using this
 cases u with
 |ret a=>
  cases hs with
  |ret=>exact absurd h.done (by rw[hd];simp[I.ended])
 |load c k=>
  obtain⟨k',g1,rfl,a1,a2,h1,h2,τ,hc,hv⟩:=hs.aEv hw ht
  obtain⟨g',w,w',r1,r2,r3,r4,r5,r6,r7,rP⟩:=key a1 a2 h1 h2 (by
   rw[run_load];unfold eK X.atEnd
   rw[if_neg (by show ¬(false=true);decide),if_neg (by dsimp only;omega),if_neg (by show ¬(1=0);decide)];rfl) (base a1 (.load (.at_ _)))
  exact⟨g',w,w',r1,r2,r3,r4,r5,r6,r7,λP hH p=>rP P hH (hH.load hw p hc a1 a2 hv ⟨_,h2⟩)⟩
 |cH c o n k=>
  obtain⟨k',g1,rfl,a1,a2,h1,h2,τ,hc,hm,cO⟩:=hs.aIk hw ht
  obtain⟨g',w,w',r1,r2,r3,r4,r5,r6,r7,rP⟩:=key (v:=aDm (x.s.cH c o n).2) a1 a2 h1 h2 (by
   rw[My];unfold jT X.atEnd
   rw[if_neg (by show ¬(false=true);decide),if_neg (by dsimp only;omega),if_neg (by show ¬(1=0);decide)];rfl) (base a1 (by
    have e:(aDm (x.s.cH c o n).2==1)=(x.s.cH c o n).2:=by cases (x.s.cH c o n).2<;>rfl
    refine .cH ?_
    rw[e];exact .at_ _))
  exact⟨g',w,w',r1,r2,r3,r4,r5,r6,r7,λP hH p=>rP P hH (hH.cH hw p hc hm a1 a2 cO ⟨_,h2⟩)⟩
 |alloc n i k=>cases hs
 |cell i k=>cases hs
 |gen k=>cases hs
 |node r k=>cases hs
def w5(g:Ga):Prop:=∀n∈g.nodes,n.Fit g.nodes.length
theorem iF.rp{t u:I α}{g:Ga}(hg:w5 g){l m d e:List Int}(h:Rp g t l m d e u):∀{j L:Nat} {Q:Nat->Nat->α->Prop},iF t j L Q->L<=g.nodes.length->(∀r∈m,1<=r)->m.length+d.length+e.length<=j+99*l.length:=by
 have hn:∀r,(g.node r).Fit g.nodes.length:=λr=>cL.node (s:=g.st) hg r
 induction h with
 |at_ u=>intro j L Q h hL hm;simp
 |load _ ih=>intro j L Q h hL hm;have:=ih (h _) hL hm;simp only[Hd]at *;omega
 |cH _ ih=>intro j L Q h hL hm;have:=ih (h _) hL hm;simp only[Hd]at *;omega
 |alloc _ ih=>intro j L Q h hL hm;have:=ih (h.2.2 _ (hm _ (PQ ..))) hL (λr hr=>hm r (VY _ hr));have:=h.1;simp only[Hd]at *;omega
 |cell _ ih=>intro j L Q h hL hm;have:=ih (h.2 _) hL hm;have:=h.1;simp only[Hd]at *;omega
 |gen _ ih=>intro j L Q h hL hm;have:=ih (h.2 _) hL hm;have:=h.1;simp only[Hd]at *;omega
 |node hr _ ih=>intro j L Q h hL hm;exact ih (h _ _ hL (hn _)) (aW _) hm
theorem lZ.rp{t u:I α}{g:Ga}{a b:Nat}{Q:α->Prop}(h:lZ a b t Q)(hg:w5 g){l m d e:List Int}(hr:Rp g t l m d e u)(hm:∀r∈m,1<=r):m.length+d.length+e.length<=a+99*l.length:=
 iF.rp hg hr (h a 0 (aW _)) (bZ _) hm
end Go.Ct
end
section
namespace Go.Ct
variable{c:Call}{n:Nat}
theorem SS(h:refused c≠0):cA c n=.ret {err:=refused c}:=by unfold cA;rw[if_pos h]
theorem RL(h:refused c=0)(hk:c.kind=7):cA c n=Bf c n:=by unfold cA;simp[h,hk]
theorem RF(h:refused c=0)(hk:c.kind=8):cA c n=Jf c n n:=by unfold cA;simp[h,hk]
theorem SB(h:refused c=0)(hk:c.kind=9):cA c n=vM c n n:=by unfold cA;simp[h,hk]
theorem EQ(h:refused c=0)(hk:c.kind=10):cA c n=kK c.aF false n:=by unfold cA;simp[h,hk]
theorem DS(h:refused c=0)(hk:c.kind=11):cA c n=kK c.aF true n:=by unfold cA;simp[h,hk]
theorem DP(h:refused c=0)(hk:c.kind=12):cA c n=yI c.aF n:=by unfold cA;simp[h,hk]
theorem Ah(h:refused c=0)(hk:c.kind=7\/c.kind=8\/c.kind=9):c.key.size<=64:=by
 by_cases hs:c.key.size<=64
 ·exact hs
 ·have hv:bR c.key=false:=by unfold bR;exact cI hs
  unfold refused at h
  rw[hv]at h
  rcases hk with hk|hk|hk<;>simp[hk]at h
theorem T5{T:I Result}{free:Nat}{x y:X}{v:Result}(q:bC T (cE free x)=out y v)(hs:y.e.aD=true):cC T free x=y:=by unfold cC WY;rw[q,lM hs]
theorem F'{T:I Result}{free:Nat}{x y:X}{v:Result}(q:bC T (cE free x)=out y v)(hs:y.e.aD=false):cC T free x={y with e:={y.e with done:=true,result:=v}}:=by unfold cC WY;rw[q,kO hs]
theorem Ok.ended{j:Nat}{y:X}(h:Ok j y)(d:Bool)(r:Result):Ok j {y with e:={y.e with done:=d,result:=r}}:=⟨h.fit,h.room,h.Cn,h.a,h.m,h.c,h.g,h.made,h.free⟩
end Go.Ct
end
section
namespace Go.Ct
end Go.Ct
end
section
namespace Go.Ct
variable{α β:Type}{g:Ga}
inductive HX{α β:Type}(R:α->β->Prop):List α->List β->Prop
 |nil:HX R [] []
 |cons {a:α} {b:β} {l:List α} {m:List β}:R a b->HX R l m->HX R (a::l) (b::m)
theorem HX.imp{α β:Type}{R S:α->β->Prop}(hi:∀a b,R a b->S a b):∀{l:List α} {m:List β},HX R l m->HX S l m
 |_,_,.nil=>.nil
 |_,_,.cons h t=>.cons (hi _ _ h) (t.imp hi)
structure FrR(g:Ga)(p:Place)(f:Int×Int):Prop where
 node:p.node=g.node f.1
 main:∃b,mZ g f.1 b
 c:(g.node f.1).kind=3
 next:p.next=f.2
 lo:0<=f.2
 hi:f.2<=64
theorem FrR.bX{p:Place}{f:Int×Int}(h:FrR g p f):f.1<=g.count:=by obtain⟨b,h⟩:=h.main;exact h.bX
theorem FrR.ge{g':Ga}{p:Place}{f:Int×Int}(h:FrR g p f)(k:Ge g g'):FrR g' p f:=by
 have e:=k.node h.bX
 obtain⟨b,hb⟩:=h.main
 exact⟨by rw[e];exact h.node,⟨b,hb.ge k⟩,by rw[e];exact h.c,h.next,h.lo,h.hi⟩
structure ItR(g:Ga)(it:KS)(w:Wk):Prop where
 st:it.started=w.started
 stack:HX (FrR g) it.stack w.stack
 wait:it.wait=w.wait
 new:it.started=false->it.wait=[]
theorem ItR.ge{g':Ga}{it:KS}{w:Wk}(h:ItR g it w)(k:Ge g g'):ItR g' it w:=⟨h.st,h.stack.imp λ_ _ h=>FrR.ge h k,h.wait,h.new⟩
theorem aNq{st:Bool}{g:Ga}{l:List Place}{fs:List (Int×Int)}(h:HX (FrR g) l fs):ItR g ⟨true,l,[]⟩ ⟨true,fs,[]⟩:=⟨rfl,h,rfl,λ_=>rfl⟩
def Kn[Qc β](g:Ga)(k:Result×KS->I β)(k':Nx->I β):Prop:=∀g',Ge g g'->GW g'->∀it w r p ok,ItR g' it w->(ok=true/\r=aCu p\/ok=false/\r={})->Sm (k (r,it)) (k' ⟨w,p,ok⟩) g'
theorem Kn.ge[Qc β]{g':Ga}{k:Result×KS->I β}{k':Nx->I β}(h:Kn g k k')(hg:Ge g g'):Kn g' k k':=λg2 h2=>h g2 (hg.trans h2)
def Ke[Qc β](g:Ga)(K:KS->I (Result×KS))(K':Wk->I Nx)(k:Result×KS->I β)(k':Nx->I β):Prop:=∀g',Ge g g'->GW g'->∀it w,ItR g' it w->it.started=true->Sm ((K it).bind k) ((K' w).bind k') g'
theorem Ke.ge[Qc β]{g':Ga}{K:KS->I (Result×KS)}{K':Wk->I Nx}{k:Result×KS->I β}{k':Nx->I β}(h:Ke g K K' k k')(hg:Ge g g'):Ke g' K K' k k':=λg2 h2=>h g2 (hg.trans h2)
end Go.Ct
end
section
namespace Go.Ct
variable{g:Ga}{c:Call}{again:I Result}
theorem WD{n:Node}{b:eC}{key:ByteArray}(hn:bT g n b)(hk:n.kind=6)(hf:(bN n.aH key).2=true):bT g (jH n key).1 b/\(jH n key).2=true/\(jH n key).1.bG=true:=by
 have hL:=F7 hn hk
 have vf:=iW hn.valid
 have hp:=vf.pJ hk
 have h2:=vf.aH hk
 have hs:=(lO _).1 (vf.short hk)
 have hl:=Iy n.aH key hp
 by_cases h1:(jR n.aH key).length=1
 ·rw[ZZ hL hf h1]
  have hm:(jR n.aH key).getD 0 ⟨.empty,0⟩∈jR n.aH key:=by
   rw[cK,fV (by omega)];exact uY (by omega)
  exact⟨Jh (.inr rfl) hn.hash (hs _ (Ie _ _ _ hm)) λ_=>⟨by have:=(hn.l hk).1;omega,(hn.l hk).2⟩,rfl,rfl⟩
 ·rw[TP hL hf h1]
  exact⟨BV hn.hash (by omega) (Gj _ _ hp) (λq hq=>hs q (Ie _ _ _ hq)) (hn.l hk),rfl,rfl⟩
theorem GN{b:Nat}:∀n,(∀k,k<n->b.testBit k=false)->Bm.pop n b=0
 |0,_=>by simp[Bm.pop]
 |n+1,h=>by rw[Bm.cQ,GN n λk hk=>h k (by omega),h n (by omega)];rfl
theorem V0{n:Node}(h:(iP n).2=true):∃k,(aB n k).2=true/\(aB n k).1=(iP n).1:=by
 unfold iP at h ⊢
 split at h
 ·cases h
 ·rename_i q
  rw[if_neg q]
  simp only[not_or,Uy,Classical.not_not]at q
  have hl:=Aq q.1
  have hex:∃k,k<64/\n.aC.testBit k=true:=by
   refine Classical.byContradiction λhno=>?_
   have:=GN (b:=n.aC) 64 λk hk=>by
    cases hb:n.aC.testBit k with
    |true=>exact absurd ⟨k,hk,hb⟩ hno
    |false=>rfl
   omega
  obtain⟨k,hk,hb⟩:=hex
  have hp:=sJ hb hk
  refine⟨k,?_,?_⟩
  ·rw[mS q.1 hk,if_pos hb]
  ·rw[mS q.1 hk,if_pos hb,show Bm.pop k n.aC=0 by omega]
structure Kd(g:Ga)(c:Call)(path:List Int)(h:Nat)(again:I Result)(k':Result×Int->I Result):Prop where
 fin:∀g',Ge g g'->GW g'->∀r:Result,r.count=0->r.aF={}->Sm (.ret r) (k' (r,1)) g'
 PV:∀g',Ge g g'->GW g'->∀r,Sm again (k' (r,0)) g'
 up:∀g',Ge g g'->GW g'->∀v,Sm (y' c path h v (path.length-1)) (k' (dL true v,1)) g'
theorem Kd.ge{path:List Int}{h:Nat}{k':Result×Int->I Result}{g':Ga}(hk:Kd g c path h again k')(hg:Ge g g'):Kd g' c path h again k':=⟨λg2 h2=>hk.fin g2 (hg.trans h2),λg2 h2=>hk.PV g2 (hg.trans h2),λg2 h2=>hk.up g2 (hg.trans h2)⟩
variable{path:List Int}{h:Nat}{k':Result×Int->I Result}
theorem yE{i m:Int}{n:Node}{v:Nat}{b:eC}(hw:GW g)(ht:Tk g c.aF)(hi:fH g i b)(hm:rU g m b)(hn:bT g n b/\n.bG=true)(hk:Kd g c path h again k'):
  Sm (tA c again path h i m n v) ((I.alloc n m λr=>(pD c.aF i m r).bind (mH true v)).bind k') g:=by
 refine .alloc b hn.1 (lP hn.2 (.inr hm)) λh1 iY=>?_
 refine Sm.as9 (u:=pD c.aF i m _) (Mv iY (ht.ge h1) (hi.ge h1) (fW hw hn.2) λg2 h2 tU ok=>?_)
 cases ok with
 |true=>exact hk.up g2 (h1.trans h2) tU _
 |false=>exact hk.PV g2 (h1.trans h2) tU _
theorem Ws(c:Call)(v:Nat):(!Jc c v)=(c.only&&v != c.expect):=by
 unfold Jc bne
 cases c.only<;>cases (v==c.expect)<;>rfl
theorem GS{i m:Int}{level:Int}{b:eC}(hw:GW g)(ht:Tk g c.aF)(hi:fH g i b)(hm:rU g m b)(DI:(g.node m).kind=6)(hk:Kd g c path h again k'):
  Sm (vG c again path h i m (g.node m)) ((nG c i m h level).bind k') g:=by
 unfold vG nG
 refine .nr hm.bX ?_
 dsimp only
 rw[show ((g.node m).kind==6)=true by rw[DI];rfl,Ws]
 cases hf:(bN (g.node m).aH c.key).2 with
 |false=>rw[JL hf];exact hk.fin g (Ge.refl hw) hw _ rfl rfl
 |true=>
  cases ho:(c.only&&(bN (g.node m).aH c.key).1 != c.expect)with
  |true=>exact hk.fin g (Ge.refl hw) hw _ rfl rfl
  |false=>
   obtain⟨o1,o2,o3⟩:=WD (hw.ofM hm.m) DI hf
   refine Sm.ff rfl (Sm.ff rfl (Sm.ff (by rw[o2];rfl) ?_))
   exact yE hw ht hi hm ⟨o1,o3⟩ hk
theorem aI1(g:Ga):g.node 0={}:=by rw[uF,if_pos (.inl (by decide))]
theorem UW{i m:Int}{l:Nat}(hw:GW g)(ht:Tk g c.aF)(hi:fH g i (l,h%64^l))(hm:rU g m (l,h%64^l))(hl:(aB (g.node m) (slice h l)).2=true)(hs:Ij g (aB (g.node m) (slice h l)).1 (eA (l,h%64^l) (slice h l)))(hk:Kd g c path h again k'):
  Sm (Es c again path h i m (g.node m) l (g.node (aB (g.node m) (slice h l)).1)) ((nG c i m h l).bind k') g:=by
 have oO:=lX hl
 have hn:=hw.ofM hm.m
 obtain⟨r1,r2⟩:=MM (i:=slice h l) hn oO hl
 unfold Es nG
 refine .nr hm.bX ?_
 dsimp only
 rw[show ((g.node m).kind==6)=false by rw[oO];rfl]
 refine .nr hs.bX ?_
 dsimp only
 rw[hl,show ((g.node (aB (g.node m) (slice h l)).1).kind==2)=false by rw[hs.1];rfl,Ws]
 cases hq:bO (g.node (aB (g.node m) (slice h l)).1).key c.key with
 |false=>exact hk.fin g (Ge.refl hw) hw _ rfl rfl
 |true=>
  cases ho:(c.only&&(g.node (aB (g.node m) (slice h l)).1).value != c.expect)with
  |true=>exact hk.fin g (Ge.refl hw) hw _ rfl rfl
  |false=>
   refine Sm.ff rfl (Sm.ff rfl ?_)
   show Sm _ ((I.node (iP (cG (g.node m) (slice h l)).1).1 λq=>.alloc (bI (cG (g.node m) (slice h l)).1 l q) m λr=>(pD c.aF i m r).bind (mH true (g.node (aB (g.node m) (slice h l)).1).value)).bind k') g
   cases hsl:(iP (cG (g.node m) (slice h l)).1).2 with
   |true=>
    obtain⟨k,k1,k2⟩:=V0 hsl
    have hb:=(r1.c r2).2.2 k k1
    rw[k2]at hb
    have hin:=hb.elim fH.bX Ij.bX
    refine .nl hin (.nr hin ?_)
    refine yE hw ht hi hm (qY (i:=k) r1 r2 (λh4=>?_) rfl) hk
    rcases hb with hb|hb
    ·rw[hb.1]at h4;cases h4
    ·exact⟨(hw.ofS hb).hash,(hw.ofS hb).key,hb.2⟩
   |false=>
    have hz:(iP (cG (g.node m) (slice h l)).1).1=0:=by
     unfold iP at hsl ⊢
     split
     ·rfl
     ·rename_i q;rw[if_neg q]at hsl;cases hsl
    rw[hz]
    refine .nr (BJ g) ?_
    dsimp only
    rw[aI1]
    exact yE hw ht hi hm (qY (i:=0) r1 r2 (λh4=>by cases h4) rfl) hk
theorem H7{v:Nat}{K':Unit->I Result}:∀(l:Nat) (g:Ga),GW g->Tk g c.aF->l<=11->(∀j,j<=l->fH g (path.getD j 0) (j,h%64^j))->(∀g',Ge g g'->GW g'->Sm (.ret (dL true v)) (K' ()) g')->Sm (y' c path h v l) ((O9 c.aF path h l).bind K') g
 |0,g,hw,ht,hl,hp,hk=>hk g (Ge.refl hw) hw
 |l+1,g,hw,ht,hl,hp,hk=>by
  refine Sm.as9 (oV hw ht (hp (l+1) (aW _)) λg1 h1 iY m hm=>.nl hm.bX (.nr hm.bX ?_))
  refine Sm.cc (λ_=>hk g1 h1 iY) λ_=>?_
  refine Sm.as9 (Oh (b:=(l,h%64^l)) iY (ht.ge h1) ((hp l (by omega)).ge h1) rfl (.inl ?_) λg2 h2 tU ok=>?_)
  ·rw[dP (by omega)];exact(hp (l+1) (aW _)).ge h1
  ·exact H7 l g2 tU (ht.ge (h1.trans h2)) (by omega) (λj hj=>(hp j (by omega)).ge (h1.trans h2)) λg' h' lD=>hk g' ((h1.trans h2).trans h') lD
def Path(g:Ga)(path:List Int)(h l:Nat):Prop:=path.length=l+1/\∀j,j<=l->fH g (path.getD j 0) (j,h%64^j)
theorem Path.ge{g':Ga}{l:Nat}(hp:Path g path h l)(hg:Ge g g'):Path g' path h l:=⟨hp.1,λj hj=>(hp.2 j hj).ge hg⟩
theorem Path.snoc{l:Nat}{b:Int}(hp:Path g path h l)(hb:fH g b (l+1,h%64^(l+1))):Path g (path++[b]) h (l+1):=by
 refine⟨by rw[cV,hp.1];rfl,λj hj=>?_⟩
 by_cases e:j=l+1
 ·subst e
  rw[cK,tN (by rw[hp.1];exact aW _),hp.1];simpa using hb
 ·rw[cK,vS (by rw[hp.1];omega),<- cK];exact hp.2 j (by omega)
variable{K:Option Result->I Result}
theorem wK{gen:Int}(eR:c.aF.readOnly=false)(Mm:1<=gen):∀(n l:Nat) (path:List Int) (i:Int) (g:Ga),GW g->Tk g c.aF->Path g path h l->path.getD l 0=i->gen<=g.gen->Kv g again K->
  Sm (fS c h gen again n path i l) ((zC c h gen n path i l).bind K) g
 |0,l,path,i,g,hw,ht,hp,he,hg,hk=>hk.PV g (Ge.refl hw) hw
 |n+1,l,path,i,g,hw,ht,hp,he,hg,hk=>by
  have hi:fH g i (l,h%64^l):=by rw[<- he];exact hp.2 l (aW _)
  refine Sm.as9 (oV hw ht hi λg1 h1 iY m hm=>?_)
  refine .nl hm.bX (.nr hm.bX ?_)
  dsimp only
  have hn:=iY.ofM hm.m
  have Jx:=hi.ge h1
  have vD:=ht.ge h1
  have hp1:=hp.ge h1
  have aFe:l<=11:=((iY.RJ Jx).i Jx.1).2
  have hkl:∀(F:Int->I (Option Result)),Kd g1 c path h again λr=>(bif r.2==1 then bif r.1.count==1 then(O9 c.aF path h (path.length-1)).bind λ_=>I.ret (some r.1)else .ret (some r.1)else bif r.2==0 then .ret none else(vB c.aF i m (slice h l) gen).bind F).bind K:=λF=>by
   refine⟨λg' h' lD r hr ht0=>?_,λg' h' lD r=>hk.PV g' (h1.trans h') lD,λg' h' lD v=>?_⟩
   ·show Sm (.ret r) ((bif r.count==1 then(O9 c.aF path h (path.length-1)).bind λ_=>I.ret (some r)else .ret (some r)).bind K) g'
    rw[hr];exact hk.fin g' (h1.trans h') lD r ht0
   ·show Sm _ (((O9 c.aF path h (path.length-1)).bind λ_=>I.ret (some (dL true v))).bind K) g'
    rw[show path.length-1=l by rw[hp.1];omega]
    exact Sm.as9 (H7 l g' lD (vD.ge h') aFe (λj hj=>(hp1.2 j hj).ge h') λg2 h2 tU=>hk.fin g2 ((h1.trans h').trans h2) tU _ rfl)
  rcases nW hm.m with oO|hk5|DI
  ·rw[show ((g1.node m).kind==5)=false by rw[oO];rfl,show ((g1.node m).kind==6)=false by rw[oO];rfl,show ((g1.node m).kind==3)=true by rw[oO];rfl]
   simp only[fN,tV]
   rw[I.bind_assoc]
   cases hl:(aB (g1.node m) (slice h l)).2 with
   |false=>
    have hz:(aB (g1.node m) (slice h l)).1=0:=by
     rcases FO hl with q|q
     ·rw[AN q]
     ·rw[Jj q]
    unfold nG
    refine .nr hm.bX ?_
    dsimp only
    rw[show ((g1.node m).kind==6)=false by rw[oO];rfl,hl,hz]
    refine .nr (BJ g1) ?_
    exact(hkl λb=>bif b==0 then .ret none else zC c h gen n (path++[b]) b ((l:Int)+1)).fin g1 (Ge.refl iY) iY _ rfl rfl
   |true=>
    refine Sm.ff rfl ?_
    rcases(hn.c oO).2.2 _ hl with hb|hb
    ·refine .nl hb.bX (Sm.ff (by rw[hb.1];rfl) ?_)
     have wG:=(hn.c oO).1
     have ed:=dP (h:=h) (l:=l) wG
     unfold nG
     refine .nr hm.bX ?_
     dsimp only
     rw[show ((g1.node m).kind==6)=false by rw[oO];rfl]
     refine .nr hb.bX ?_
     dsimp only
     rw[hl,show ((g1.node (aB (g1.node m) (slice h l)).1).kind==2)=true by rw[hb.1];rfl]
     show Sm _ (((vB c.aF i m (slice h l) gen).bind λb=>bif b==0 then .ret none else zC c h gen n (path++[b]) b ((l:Int)+1)).bind K) g1
     rw[I.bind_assoc]
     refine GK (kp:=λb=>fS c h gen again n (path++[b]) b (l+1)) iY vD Jx hm hl hb (λg' h' lD r hr=>?_) λg' h' lD=>hk.PV g' (h1.trans h') lD
     rw[show (r==0)=false from beq_eq_false_iff_ne.2 (by have:=hr.one;omega)]
     rw[ed]at hr
     refine wK eR Mm n (l+1) (path++[r]) r g' lD (vD.ge h') ((hp1.ge h').snoc hr) ?_ (by have:=(h1.trans h').gen;omega) (hk.ge (h1.trans h'))
     rw[cK,tN (by rw[hp.1];exact aW _),hp.1];simp
    ·refine .nl hb.bX (Sm.tt (by rw[hb.1];rfl) ?_)
     exact UW iY vD Jx hm hl hb (hkl _)
  ·have h1l:1<=l:=(hn.t hk5).1
   rw[show ((g1.node m).kind==5)=true by rw[hk5];rfl,show decide (0<l)=true from gM (by omega)]
   simp only[tV]
   obtain⟨l',rfl⟩:∃l',l=l'+1:=⟨l-1,by omega⟩
   rw[show ((l'+1:Nat):Int)-1=(l':Int) by omega,Qa]
   exact Sm.as9 (Oh (b:=(l',h%64^l')) iY vD (hp1.2 l' (by omega)) rfl (.inl (by rw[dP (by omega)];exact Jx)) λg' h' lD ok=>hk.PV g' (h1.trans h') lD)
  ·rw[show ((g1.node m).kind==5)=false by rw[DI];rfl,show ((g1.node m).kind==6)=true by rw[DI];rfl]
   simp only[fN,tV]
   rw[I.bind_assoc]
   exact GS iY vD Jx hm DI (hkl _)
theorem wL{k:Nat}(eR:c.aF.readOnly=false):∀(n:Nat) (g:Ga),GW g->Tk g c.aF->Sm (eU c k n) (vM c k n) g
 |0,g,hw,ht=>.ret _ g (q0 rfl)
 |n+1,g,hw,ht=>by
  rw[Tl]
  refine Gz hw ht λg1 h1 iY r hr=>.nl hr.bX (.nr hr.bX ?_)
  obtain⟨a1,a2⟩:=NJ iY hr
  have hP:Path g1 [r] (aE c.key c.aI) 0:=⟨rfl,λj hj=>by
   obtain rfl:j=0:=by omega
   simpa[Nat.mod_one]using hr⟩
  exact wK eR a1 k 0 [r] r g1 iY (ht.ge h1) hP rfl a2 ⟨λg' h' lD r hr=>.ret _ _ (q0 hr),λg' h' lD=>wL eR n g' lD (ht.ge (h1.trans h'))⟩
structure nQ(g:Ga)(c:Call):Prop where
 lo:7<=c.kind
 hi:c.kind<=12\/c.kind<=12
 aF:Tk g c.aF
 ro:c.kind=8\/c.kind=9\/c.kind=12->c.aF.readOnly=false
theorem nQ.ge{g':Ga}(h:nQ g c)(k:Ge g g'):nQ g' c:=⟨h.lo,h.hi,h.aF.ge k,h.ro⟩
theorem JJ{c:Call}(h:c.kind=8):refused c=bif !bR c.key||(decide (c.bF<0)||decide (c.bF>3))then 1 else 0:=by
 have e:refused c=bif bR c.key&&decide (0<=c.bF)&&decide (c.bF<=3)then 0 else 1:=by unfold refused;rw[h];rfl
 have e0:decide (c.bF<0)=!decide (0<=c.bF):=by rw[<- decide_not];exact decide_eq_decide.2 (by omega)
 have e3:decide (c.bF>3)=!decide (c.bF<=3):=by rw[<- decide_not];exact decide_eq_decide.2 (by omega)
 rw[e,e0,e3]
 cases bR c.key<;>cases decide (0<=c.bF)<;>cases decide (c.bF<=3)<;>rfl
theorem VO{c:Call}(h:c.kind=7\/c.kind=9):refused c=bif bR c.key then 0 else 1:=by
 unfold refused;rcases h with h|h<;>rw[h]<;>rfl
theorem ME{c:Call}(h:c.kind=10\/c.kind=11\/c.kind=12):refused c=0:=by
 unfold refused;rcases h with h|h|h<;>rw[h]<;>rfl
theorem W9{n:Nat}(hw:GW g)(h:nQ g c):Sm (jC c n) (cA c n) g:=by
 have hlo:=h.lo
 have hhi:=h.hi
 unfold jC
 by_cases hr:refused c=0
 ·by_cases h7:c.kind=7
  ·rw[if_pos h7,RL hr h7]
   have hk:=Ah hr (.inl h7)
   refine Sm.ff (by rw[show bR c.key=true from gM hk];rfl) (aAb n hw h.aF)
  rw[if_neg h7]
  by_cases h8:c.kind=8
  ·rw[if_pos h8,RF hr h8]
   have hk:=Ah hr (.inr (.inl h8))
   have hv:bR c.key=true:=gM hk
   rw[JJ h8]at hr
   cases hb:(!bR c.key||(decide (c.bF<0)||decide (c.bF>3)))with
   |true=>rw[hb]at hr;cases hr
   |false=>exact Sm.ff hb (Pm (h.ro (.inl h8)) hk n g hw h.aF)
  rw[if_neg h8]
  by_cases h9:c.kind=9
  ·rw[if_pos h9,SB hr h9]
   have hk:=Ah hr (.inr (.inr h9))
   exact Sm.ff (by rw[show bR c.key=true from gM hk];rfl) (wL (h.ro (.inr (.inl h9))) n g hw h.aF)
  rw[if_neg h9]
  by_cases N7:c.kind=10
  ·rw[if_pos N7,EQ hr N7];exact HN n hw h.aF
  rw[if_neg N7]
  by_cases TT:c.kind=11
  ·rw[if_pos TT,DS hr TT];exact XM n hw h.aF
  rw[if_neg TT]
  rw[DP hr (by omega)]
  exact IX (h.ro (.inr (.inr (by omega)))) n g hw h.aF
 ·rw[SS hr]
  by_cases h79:c.kind=7\/c.kind=9
  ·rw[VO h79]at hr ⊢
   cases hv:bR c.key with
   |true=>rw[hv]at hr;exact absurd rfl hr
   |false=>
    rcases h79 with h|h
    ·rw[if_pos h];exact Sm.tt (by rw[hv];rfl) (.ret _ g (q0 rfl))
    ·rw[if_neg (by omega),if_neg (by omega),if_pos h];exact Sm.tt (by rw[hv];rfl) (.ret _ g (q0 rfl))
  ·by_cases h8:c.kind=8
   ·rw[JJ h8]at hr ⊢
    rw[if_neg (by omega),if_pos h8]
    cases hb:(!bR c.key||(decide (c.bF<0)||decide (c.bF>3)))with
    |true=>exact Sm.tt hb (.ret _ g (q0 rfl))
    |false=>rw[hb]at hr;exact absurd rfl hr
   ·exact absurd (ME (by omega)) hr
end Go.Ct
end
