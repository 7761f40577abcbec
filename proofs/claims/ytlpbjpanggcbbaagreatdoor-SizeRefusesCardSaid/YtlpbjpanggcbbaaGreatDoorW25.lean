/- Parts of a proof: Sa5, Qp, Sa6, Wp, Wl. -/
import Derived.Test.YtlpbjpanggcbbaaGreatDoorW24
set_option linter.unusedVariables false
set_option linter.unusedSimpArgs false
set_option maxRecDepth 100000
set_option maxHeartbeats 4000000
section
namespace Go.Ct
variable{g:Ga}
structure Kv(g:Ga)(again:I Result)(K:Option Result->I Result):Prop where
 fin:∀g',Ge g g'->GW g'->∀r:Result,r.aE={}->Sm (.ret r) (K (some r)) g'
 AS:∀g',Ge g g'->GW g'->Sm again (K none) g'
theorem Kv.ge{again:I Result}{K:Option Result->I Result}{g':Ga}(h:Kv g again K)(hg:Ge g g'):Kv g' again K:=⟨λg2 h2=>h.fin g2 (hg.trans h2),λg2 h2=>h.AS g2 (hg.trans h2)⟩
variable{c:Call}{again:I Result}{K:Option Result->I Result}
theorem ZH{r:Int}{b:fV}(hw:GW g)(h:jV g r b):1<=(g.node r).gen/\(g.node r).gen<=g.gen:=⟨(fJ (hw.YW h).valid).gen h.1,((hw.YW h).i h.1).1⟩
theorem Vd{i m ix gen:Int}{b:fV}{kp:Int->I Result}{kr:Int->I Result}(hw:GW g)(ht:Tk g c.aE)(hi:jV g i b)(hm:oH g m b)(hl:(aB (g.node m) ix).2=true)(hb:jV g (aB (g.node m) ix).1 (dO b ix))
  (h1:∀g',Ge g g'->GW g'->∀r,jV g' r (dO b ix)->Sm (kp r) (kr r) g') (h0:∀g',Ge g g'->GW g'->Sm again (kr 0) g'):
  Sm (bif (g.node (aB (g.node m) ix).1).gen != gen then pD c.aE i m ix λb=>bif b==0 then again else kp b else kp (aB (g.node m) ix).1) ((qS c.aE i m ix gen).bind kr) g:=by
 unfold qS
 refine .nr hm.dU (.nr hb.dU ?_)
 dsimp only
 cases hg:(g.node (aB (g.node m) ix).1).gen==gen with
 |true=>
  rw[show ((g.node (aB (g.node m) ix).1).gen != gen)=false by unfold bne;rw[hg];rfl]
  exact h1 g (Ge.refl hw) hw _ hb
 |false=>
  rw[show ((g.node (aB (g.node m) ix).1).gen != gen)=true by unfold bne;rw[hg];rfl]
  refine Sm.tt rfl (Sm.rf rfl (OX hw ht hi hm hl hb λg' hg' hw' r hr=>?_))
  rcases hr with rfl|hr
  ·exact h0 g' hg' hw'
  ·refine Sm.ff ?_ (h1 g' hg' hw' r hr)
   have:=hr.one
   exact beq_eq_false_iff_ne.2 (by omega)
theorem Xu{h:Nat}{gen:Int}(hro:c.aE.readOnly=false)(hh:h<18446744073709551616)(hkey:c.key.size<=64)(hg1:1<=gen):∀(n l:Nat) (pa i:Int) (g:Ga),GW g->Tk g c.aE->jV g i (l,h%64^l)->(l=0\/jV g pa (l-1,h%64^(l-1)))->gen<=g.gen->Kv g again K->
  Sm (gA c h gen again n pa i l) ((Dx c h gen n pa i l).bind K) g
 |0,l,pa,i,g,hw,ht,hi,hp,hg,hk=>hk.AS g (Ge.refl hw) hw
 |n+1,l,pa,i,g,hw,ht,hi,hp,hg,hk=>by
  refine Sm.as9 (mN hw ht hi λg1 h1 hw1 m hm=>?_)
  refine .nl hm.dU (.nr hm.dU ?_)
  dsimp only
  have hn:=hw1.ofM hm
  have hi1:=hi.ge h1
  have ht1:=ht.ge h1
  have hgg:gen<=g1.gen:=by have:=h1.gen;omega
  have hkl:∀(F:Int->I (Option Result)),Kl g1 again λr=>(bif r.2==1 then I.ret (some r.1)else bif r.2==0 then .ret none else(qS c.aE i m (slice h l) gen).bind F).bind K:=λF=>⟨λg' h' hw' r hr=>hk.fin g' (h1.trans h') hw' r hr,λg' h' hw' r=>hk.AS g' (h1.trans h') hw'⟩
  rcases sH hm with hk3|hk5|hk6
  ·rw[show ((g1.node m).kind==5)=false by rw[hk3];rfl,show ((g1.node m).kind==6)=false by rw[hk3];rfl,show ((g1.node m).kind==3)=true by rw[hk3];rfl]
   simp only[cond_false,cond_true]
   rw[I.bind_assoc]
   cases hl:(aB (g1.node m) (slice h l)).2 with
   |false=>exact NJ hw1 ht1 hi1 hm hk3 hl hh hkey (hkl _)
   |true=>
    refine Sm.ff rfl ?_
    rcases(hn.c hk3).2.2 _ hl with hb|hb
    ·refine .nl hb.dU (Sm.ff (by rw[hb.1];rfl) ?_)
     have hl10:=(hn.c hk3).1
     have ed:=fP (h:=h) (l:=l) hl10
     unfold lJ
     refine .nr hm.dU ?_
     dsimp only
     rw[show ((g1.node m).kind==6)=false by rw[hk3];rfl]
     refine .nr hb.dU ?_
     dsimp only
     rw[hl,show ((g1.node (aB (g1.node m) (slice h l)).1).kind==2)=true by rw[hb.1];rfl]
     show Sm _ (((qS c.aE i m (slice h l) gen).bind λb=>bif b==0 then .ret none else Dx c h gen n i b ((l:Int)+1)).bind K) g1
     rw[I.bind_assoc]
     refine Vd (kp:=λb=>gA c h gen again n i b ((l:Int)+1)) hw1 ht1 hi1 hm hl hb (λg' h' hw' r hr=>?_) λg' h' hw'=>hk.AS g' (h1.trans h') hw'
     rw[show (r==0)=false from beq_eq_false_iff_ne.2 (by have:=hr.one;omega)]
     rw[ed]at hr
     exact Xu hro hh hkey hg1 n (l+1) i r g' hw' (ht1.ge h') hr (.inr (by show jV g' i (l,h%64^l);exact hi1.ge h')) (by have:=h'.gen;omega) (hk.ge (h1.trans h'))
    ·refine .nl hb.dU (Sm.tt (by rw[hb.1];rfl) ?_)
     exact JD hw1 ht1 hi1 hm hl hb hh hkey hg1 hgg (hkl _)
  ·have h1l:=(hn.t hk5).1
   rw[show ((g1.node m).kind==5)=true by rw[hk5];rfl]
   simp only[cond_true]
   have hp':=(hp.resolve_left (by show ¬l=0;have:1<=l:=h1l;omega)).ge h1
   obtain⟨l',rfl⟩:∃l',l=l'+1:=⟨l-1,by have:1<=l:=h1l;omega⟩
   have hl11:l'+1<=11:=((hw1.YW hi1).i hi1.1).2
   rw[show ((l'+1:Nat):Int)-1=(l':Int) by omega]
   exact Sm.as9 (Jz (b:=(l',h%64^l')) hw1 ht1 hp' rfl (.inl (by rw[fP (by omega)];exact hi1)) λg' h' hw' ok=>hk.AS g' (h1.trans h') hw')
  ·rw[show ((g1.node m).kind==5)=false by rw[hk6];rfl,show ((g1.node m).kind==6)=true by rw[hk6];rfl]
   simp only[cond_false,cond_true]
   rw[I.bind_assoc]
   exact AM hw1 ht1 hi1 hm hk6 hkey (hkl _)
theorem Vq{k:Nat}(hro:c.aE.readOnly=false)(hkey:c.key.size<=64):∀(n:Nat) (g:Ga),GW g->Tk g c.aE->Sm (bO c k n) (yN c k n) g
 |0,g,hw,ht=>.ret _ g (q0 rfl)
 |n+1,g,hw,ht=>by
  rw[Cr]
  refine Bk hw ht λg1 h1 hw1 r hr=>.nl hr.dU (.nr hr.dU ?_)
  obtain⟨a1,a2⟩:=ZH hw1 hr
  exact Xu hro (eI _ _) hkey a1 k 0 0 r g1 hw1 (ht.ge h1) (by simpa[Nat.mod_one]using hr) (.inl rfl) a2 ⟨λg' h' hw' r hr=>.ret _ _ (q0 hr),λg' h' hw'=>Vq hro hkey n g' hw' (ht.ge (h1.trans h'))⟩
end Go.Ct
end
section
namespace Go.Ct
variable{c:Call}{n:Nat}
theorem EJ(h:refused c≠0):bY c n=.ret {err:=refused c}:=by unfold bY;rw[if_pos h]
theorem FR(h:refused c=0)(hk:c.kind=7):bY c n=tH c n:=by unfold bY;simp[h,hk]
theorem EF(h:refused c=0)(hk:c.kind=8):bY c n=yN c n n:=by unfold bY;simp[h,hk]
theorem ER(h:refused c=0)(hk:c.kind=9):bY c n=pE c n n:=by unfold bY;simp[h,hk]
theorem Xo(h:refused c=0)(hk:c.kind=10):bY c n=iL c.aE false n:=by unfold bY;simp[h,hk]
theorem Vj(h:refused c=0)(hk:c.kind=11):bY c n=iL c.aE true n:=by unfold bY;simp[h,hk]
theorem Uk(h:refused c=0)(hk:c.kind=12):bY c n=vK c.aE n:=by unfold bY;simp[h,hk]
theorem vW(h:refused c=0)(hk:c.kind=7\/c.kind=8\/c.kind=9):c.key.size<=64:=by
 by_cases hs:c.key.size<=64
 ·exact hs
 ·have hv:bU c.key=false:=by unfold bU;exact cW hs
  unfold refused at h
  rw[hv]at h
  rcases hk with hk|hk|hk<;>simp[hk]at h
theorem TQ{T:I Result}{free:Nat}{x y:X}{v:Result}(q:aX T (cD free x)=out y v)(hs:y.e.aC=true):bX T free x=y:=by unfold bX JT;rw[q,iX hs]
theorem SJ{T:I Result}{free:Nat}{x y:X}{v:Result}(q:aX T (cD free x)=out y v)(hs:y.e.aC=false):bX T free x={y with e:={y.e with done:=true,result:=v}}:=by unfold bX JT;rw[q,iK hs]
theorem Ok.ended{j:Nat}{y:X}(h:Ok j y)(d:Bool)(r:Result):Ok j {y with e:={y.e with done:=d,result:=r}}:=⟨h.fit,h.room,h.zP,h.a,h.m,h.c,h.g,h.made,h.free⟩
end Go.Ct
end
section
namespace Go.Ct
variable{g:Ga}{c:Call}{again:I Result}
theorem KR{n:Node}{b:fV}{key:ByteArray}(hn:cJ g n b)(hk:n.kind=6)(hf:(bB n.aF key).2=true):cJ g (gC n key).1 b/\(gC n key).2=true/\(gC n key).1.bM=true:=by
 have hL:=NQ hn hk
 have vf:=fJ hn.valid
 have hp:=vf.oS hk
 have h2:=vf.aF hk
 have hs:=(jF _).1 (vf.short hk)
 have hl:=Dp n.aF key hp
 by_cases h1:(gX n.aF key).length=1
 ·rw[NK hL hf h1]
  have hm:(gX n.aF key).getD 0 ⟨.empty,0⟩∈gX n.aF key:=by
   rw[Fb,fM (by omega)];exact qR (by omega)
  exact⟨Bz (.inr rfl) hn.hash (hs _ (Df _ _ _ hm)) λ_=>⟨by have:=(hn.l hk).1;omega,(hn.l hk).2⟩,rfl,rfl⟩
 ·rw[EE hL hf h1]
  exact⟨Pj hn.hash (by omega) (zV _ _ hp) (λq hq=>hs q (Df _ _ _ hq)) (hn.l hk),rfl,rfl⟩
theorem Yh{b:Nat}:∀n,(∀k,k<n->b.testBit k=false)->Bm.pop n b=0
 |0,_=>by simp[Bm.pop]
 |n+1,h=>by rw[Bm.cZ,Yh n λk hk=>h k (by omega),h n (by omega)];rfl
theorem TL{n:Node}(h:(fF n).2=true):∃k,(aB n k).2=true/\(aB n k).1=(fF n).1:=by
 unfold fF at h ⊢
 split at h
 ·cases h
 ·rename_i q
  rw[if_neg q]
  simp only[not_or,JA,Classical.not_not]at q
  have hl:=Ag q.1
  have hex:∃k,k<64/\n.aD.testBit k=true:=by
   refine Classical.byContradiction λhno=>?_
   have:=Yh (b:=n.aD) 64 λk hk=>by
    cases hb:n.aD.testBit k with
    |true=>exact absurd ⟨k,hk,hb⟩ hno
    |false=>rfl
   omega
  obtain⟨k,hk,hb⟩:=hex
  have hp:=oM hb hk
  refine⟨k,?_,?_⟩
  ·rw[lQ q.1 hk,if_pos hb]
  ·rw[lQ q.1 hk,if_pos hb,show Bm.pop k n.aD=0 by omega]
structure Kd(g:Ga)(c:Call)(path:List Int)(h:Nat)(again:I Result)(k':Result×Int->I Result):Prop where
 fin:∀g',Ge g g'->GW g'->∀r:Result,r.count=0->r.aE={}->Sm (.ret r) (k' (r,1)) g'
 AS:∀g',Ge g g'->GW g'->∀r,Sm again (k' (r,0)) g'
 up:∀g',Ge g g'->GW g'->∀v,Sm (n9 c path h v (path.length-1)) (k' (dL true v,1)) g'
theorem Kd.ge{path:List Int}{h:Nat}{k':Result×Int->I Result}{g':Ga}(hk:Kd g c path h again k')(hg:Ge g g'):Kd g' c path h again k':=⟨λg2 h2=>hk.fin g2 (hg.trans h2),λg2 h2=>hk.AS g2 (hg.trans h2),λg2 h2=>hk.up g2 (hg.trans h2)⟩
variable{path:List Int}{h:Nat}{k':Result×Int->I Result}
theorem uR{i m:Int}{n:Node}{v:Nat}{b:fV}(hw:GW g)(ht:Tk g c.aE)(hi:jV g i b)(hm:oH g m b)(hn:cJ g n b/\n.bM=true)(hk:Kd g c path h again k'):
  Sm (wM c again path h i m n v) ((I.alloc n m λr=>(mE c.aE i m r).bind (kJ true v)).bind k') g:=by
 refine .alloc b hn.1 (mZ hn.2 (.inr hm)) λh1 hw1=>?_
 refine Sm.as9 (u:=mE c.aE i m _) (Gh hw1 (ht.ge h1) (hi.ge h1) (kQ hw hn.2) λg2 h2 hw2 ok=>?_)
 cases ok with
 |true=>exact hk.up g2 (h1.trans h2) hw2 _
 |false=>exact hk.AS g2 (h1.trans h2) hw2 _
theorem Oy(c:Call)(v:Nat):(!Qj c v)=(c.only&&v != c.expect):=by
 unfold Qj bne
 cases c.only<;>cases (v==c.expect)<;>rfl
theorem Zj{i m:Int}{level:Int}{b:fV}(hw:GW g)(ht:Tk g c.aE)(hi:jV g i b)(hm:oH g m b)(hk6:(g.node m).kind=6)(hk:Kd g c path h again k'):
  Sm (Cq c again path h i m (g.node m)) ((kT c i m h level).bind k') g:=by
 unfold Cq kT
 refine .nr hm.dU ?_
 dsimp only
 rw[show ((g.node m).kind==6)=true by rw[hk6];rfl,Oy]
 cases hf:(bB (g.node m).aF c.key).2 with
 |false=>rw[Zl hf];exact hk.fin g (Ge.refl hw) hw _ rfl rfl
 |true=>
  cases ho:(c.only&&(bB (g.node m).aF c.key).1 != c.expect)with
  |true=>exact hk.fin g (Ge.refl hw) hw _ rfl rfl
  |false=>
   obtain⟨o1,o2,o3⟩:=KR (hw.ofM hm) hk6 hf
   refine Sm.ff rfl (Sm.ff rfl (Sm.ff (by rw[o2];rfl) ?_))
   exact uR hw ht hi hm ⟨o1,o3⟩ hk
theorem ZP(g:Ga):g.node 0={}:=by rw[pZ,if_pos (.inl (by decide))]
theorem HJ{i m:Int}{l:Nat}(hw:GW g)(ht:Tk g c.aE)(hi:jV g i (l,h%64^l))(hm:oH g m (l,h%64^l))(hl:(aB (g.node m) (slice h l)).2=true)(hs:Dg g (aB (g.node m) (slice h l)).1 (dO (l,h%64^l) (slice h l)))(hk:Kd g c path h again k'):
  Sm (Pp c again path h i m (g.node m) l (g.node (aB (g.node m) (slice h l)).1)) ((kT c i m h l).bind k') g:=by
 have hk3:=Ai hl
 have hn:=hw.ofM hm
 obtain⟨r1,r2⟩:=BH (i:=slice h l) hn hk3 hl
 unfold Pp kT
 refine .nr hm.dU ?_
 dsimp only
 rw[show ((g.node m).kind==6)=false by rw[hk3];rfl]
 refine .nr hs.dU ?_
 dsimp only
 rw[hl,show ((g.node (aB (g.node m) (slice h l)).1).kind==2)=false by rw[hs.1];rfl,Oy]
 cases hq:bR (g.node (aB (g.node m) (slice h l)).1).key c.key with
 |false=>exact hk.fin g (Ge.refl hw) hw _ rfl rfl
 |true=>
  cases ho:(c.only&&(g.node (aB (g.node m) (slice h l)).1).value != c.expect)with
  |true=>exact hk.fin g (Ge.refl hw) hw _ rfl rfl
  |false=>
   refine Sm.ff rfl (Sm.ff rfl ?_)
   show Sm _ ((I.node (fF (bL (g.node m) (slice h l)).1).1 λq=>.alloc (bQ (bL (g.node m) (slice h l)).1 l q) m λr=>(mE c.aE i m r).bind (kJ true (g.node (aB (g.node m) (slice h l)).1).value)).bind k') g
   cases hsl:(fF (bL (g.node m) (slice h l)).1).2 with
   |true=>
    obtain⟨k,k1,k2⟩:=TL hsl
    have hb:=(r1.c r2).2.2 k k1
    rw[k2]at hb
    have hin:=hb.elim jV.dU Dg.dU
    refine .nl hin (.nr hin ?_)
    refine uR hw ht hi hm (qO (i:=k) r1 r2 (λh4=>?_) rfl) hk
    rcases hb with hb|hb
    ·rw[hb.1]at h4;cases h4
    ·exact⟨(hw.D2 hb).hash,(hw.D2 hb).key,hb.2⟩
   |false=>
    have hz:(fF (bL (g.node m) (slice h l)).1).1=0:=by
     unfold fF at hsl ⊢
     split
     ·rfl
     ·rename_i q;rw[if_neg q]at hsl;cases hsl
    rw[hz]
    refine .nr (Tn g) ?_
    dsimp only
    rw[ZP]
    exact uR hw ht hi hm (qO (i:=0) r1 r2 (λh4=>by cases h4) rfl) hk
theorem UP{v:Nat}{K':Unit->I Result}:∀(l:Nat) (g:Ga),GW g->Tk g c.aE->l<=11->(∀j,j<=l->jV g (path.getD j 0) (j,h%64^j))->(∀g',Ge g g'->GW g'->Sm (.ret (dL true v)) (K' ()) g')->Sm (n9 c path h v l) ((QP c.aE path h l).bind K') g
 |0,g,hw,ht,hl,hp,hk=>hk g (Ge.refl hw) hw
 |l+1,g,hw,ht,hl,hp,hk=>by
  refine Sm.as9 (mN hw ht (hp (l+1) (bD _)) λg1 h1 hw1 m hm=>.nl hm.dU (.nr hm.dU ?_))
  refine Sm.cc (λ_=>hk g1 h1 hw1) λ_=>?_
  refine Sm.as9 (Jz (b:=(l,h%64^l)) hw1 (ht.ge h1) ((hp l (by omega)).ge h1) rfl (.inl ?_) λg2 h2 hw2 ok=>?_)
  ·rw[fP (by omega)];exact(hp (l+1) (bD _)).ge h1
  ·exact UP l g2 hw2 (ht.ge (h1.trans h2)) (by omega) (λj hj=>(hp j (by omega)).ge (h1.trans h2)) λg' h' hw'=>hk g' ((h1.trans h2).trans h') hw'
def Path(g:Ga)(path:List Int)(h l:Nat):Prop:=path.length=l+1/\∀j,j<=l->jV g (path.getD j 0) (j,h%64^j)
theorem Path.ge{g':Ga}{l:Nat}(hp:Path g path h l)(hg:Ge g g'):Path g' path h l:=⟨hp.1,λj hj=>(hp.2 j hj).ge hg⟩
theorem Path.snoc{l:Nat}{b:Int}(hp:Path g path h l)(hb:jV g b (l+1,h%64^(l+1))):Path g (path++[b]) h (l+1):=by
 refine⟨by rw[cO,hp.1];rfl,λj hj=>?_⟩
 by_cases e:j=l+1
 ·subst e
  rw[Fb,tW (by rw[hp.1];exact bD _),hp.1];simpa using hb
 ·rw[Fb,xD (by rw[hp.1];omega),<- Fb];exact hp.2 j (by omega)
variable{K:Option Result->I Result}
theorem Bd{gen:Int}(hro:c.aE.readOnly=false)(hg1:1<=gen):∀(n l:Nat) (path:List Int) (i:Int) (g:Ga),GW g->Tk g c.aE->Path g path h l->path.getD l 0=i->gen<=g.gen->Kv g again K->
  Sm (pM c h gen again n path i l) ((sY c h gen n path i l).bind K) g
 |0,l,path,i,g,hw,ht,hp,he,hg,hk=>hk.AS g (Ge.refl hw) hw
 |n+1,l,path,i,g,hw,ht,hp,he,hg,hk=>by
  have hi:jV g i (l,h%64^l):=by rw[<- he];exact hp.2 l (bD _)
  refine Sm.as9 (mN hw ht hi λg1 h1 hw1 m hm=>?_)
  refine .nl hm.dU (.nr hm.dU ?_)
  dsimp only
  have hn:=hw1.ofM hm
  have hi1:=hi.ge h1
  have ht1:=ht.ge h1
  have hp1:=hp.ge h1
  have hl11:l<=11:=((hw1.YW hi1).i hi1.1).2
  have hkl:∀(F:Int->I (Option Result)),Kd g1 c path h again λr=>(bif r.2==1 then bif r.1.count==1 then(QP c.aE path h (path.length-1)).bind λ_=>I.ret (some r.1)else .ret (some r.1)else bif r.2==0 then .ret none else(qS c.aE i m (slice h l) gen).bind F).bind K:=λF=>by
   refine⟨λg' h' hw' r hr ht0=>?_,λg' h' hw' r=>hk.AS g' (h1.trans h') hw',λg' h' hw' v=>?_⟩
   ·show Sm (.ret r) ((bif r.count==1 then(QP c.aE path h (path.length-1)).bind λ_=>I.ret (some r)else .ret (some r)).bind K) g'
    rw[hr];exact hk.fin g' (h1.trans h') hw' r ht0
   ·show Sm _ (((QP c.aE path h (path.length-1)).bind λ_=>I.ret (some (dL true v))).bind K) g'
    rw[show path.length-1=l by rw[hp.1];omega]
    exact Sm.as9 (UP l g' hw' (ht1.ge h') hl11 (λj hj=>(hp1.2 j hj).ge h') λg2 h2 hw2=>hk.fin g2 ((h1.trans h').trans h2) hw2 _ rfl)
  rcases sH hm with hk3|hk5|hk6
  ·rw[show ((g1.node m).kind==5)=false by rw[hk3];rfl,show ((g1.node m).kind==6)=false by rw[hk3];rfl,show ((g1.node m).kind==3)=true by rw[hk3];rfl]
   simp only[cond_false,cond_true]
   rw[I.bind_assoc]
   cases hl:(aB (g1.node m) (slice h l)).2 with
   |false=>
    have hz:(aB (g1.node m) (slice h l)).1=0:=by
     rcases Vv hl with q|q
     ·rw[Tr q]
     ·rw[Dd q]
    unfold kT
    refine .nr hm.dU ?_
    dsimp only
    rw[show ((g1.node m).kind==6)=false by rw[hk3];rfl,hl,hz]
    refine .nr (Tn g1) ?_
    exact(hkl λb=>bif b==0 then .ret none else sY c h gen n (path++[b]) b ((l:Int)+1)).fin g1 (Ge.refl hw1) hw1 _ rfl rfl
   |true=>
    refine Sm.ff rfl ?_
    rcases(hn.c hk3).2.2 _ hl with hb|hb
    ·refine .nl hb.dU (Sm.ff (by rw[hb.1];rfl) ?_)
     have hl10:=(hn.c hk3).1
     have ed:=fP (h:=h) (l:=l) hl10
     unfold kT
     refine .nr hm.dU ?_
     dsimp only
     rw[show ((g1.node m).kind==6)=false by rw[hk3];rfl]
     refine .nr hb.dU ?_
     dsimp only
     rw[hl,show ((g1.node (aB (g1.node m) (slice h l)).1).kind==2)=true by rw[hb.1];rfl]
     show Sm _ (((qS c.aE i m (slice h l) gen).bind λb=>bif b==0 then .ret none else sY c h gen n (path++[b]) b ((l:Int)+1)).bind K) g1
     rw[I.bind_assoc]
     refine Vd (kp:=λb=>pM c h gen again n (path++[b]) b (l+1)) hw1 ht1 hi1 hm hl hb (λg' h' hw' r hr=>?_) λg' h' hw'=>hk.AS g' (h1.trans h') hw'
     rw[show (r==0)=false from beq_eq_false_iff_ne.2 (by have:=hr.one;omega)]
     rw[ed]at hr
     refine Bd hro hg1 n (l+1) (path++[r]) r g' hw' (ht1.ge h') ((hp1.ge h').snoc hr) ?_ (by have:=(h1.trans h').gen;omega) (hk.ge (h1.trans h'))
     rw[Fb,tW (by rw[hp.1];exact bD _),hp.1];simp
    ·refine .nl hb.dU (Sm.tt (by rw[hb.1];rfl) ?_)
     exact HJ hw1 ht1 hi1 hm hl hb (hkl _)
  ·have h1l:1<=l:=(hn.t hk5).1
   rw[show ((g1.node m).kind==5)=true by rw[hk5];rfl,show decide (0<l)=true from eC (by omega)]
   simp only[cond_true]
   obtain⟨l',rfl⟩:∃l',l=l'+1:=⟨l-1,by omega⟩
   rw[show ((l'+1:Nat):Int)-1=(l':Int) by omega,dF]
   exact Sm.as9 (Jz (b:=(l',h%64^l')) hw1 ht1 (hp1.2 l' (by omega)) rfl (.inl (by rw[fP (by omega)];exact hi1)) λg' h' hw' ok=>hk.AS g' (h1.trans h') hw')
  ·rw[show ((g1.node m).kind==5)=false by rw[hk6];rfl,show ((g1.node m).kind==6)=true by rw[hk6];rfl]
   simp only[cond_false,cond_true]
   rw[I.bind_assoc]
   exact Zj hw1 ht1 hi1 hm hk6 (hkl _)
theorem Bg{k:Nat}(hro:c.aE.readOnly=false):∀(n:Nat) (g:Ga),GW g->Tk g c.aE->Sm (yQ c k n) (pE c k n) g
 |0,g,hw,ht=>.ret _ g (q0 rfl)
 |n+1,g,hw,ht=>by
  rw[zL]
  refine Bk hw ht λg1 h1 hw1 r hr=>.nl hr.dU (.nr hr.dU ?_)
  obtain⟨a1,a2⟩:=ZH hw1 hr
  have hP:Path g1 [r] (aH c.key c.aI) 0:=⟨rfl,λj hj=>by
   obtain rfl:j=0:=by omega
   simpa[Nat.mod_one]using hr⟩
  exact Bd hro a1 k 0 [r] r g1 hw1 (ht.ge h1) hP rfl a2 ⟨λg' h' hw' r hr=>.ret _ _ (q0 hr),λg' h' hw'=>Bg hro n g' hw' (ht.ge (h1.trans h'))⟩
structure kZ(g:Ga)(c:Call):Prop where
 lo:7<=c.kind
 hi:c.kind<=12
 aE:Tk g c.aE
 ro:c.kind=8\/c.kind=9\/c.kind=12->c.aE.readOnly=false
theorem kZ.ge{g':Ga}(h:kZ g c)(k:Ge g g'):kZ g' c:=⟨h.lo,h.hi,h.aE.ge k,h.ro⟩
theorem Xi{c:Call}(h:c.kind=8):refused c=bif !bU c.key||(decide (c.bF<0)||decide (c.bF>3))then 1 else 0:=by
 have e:refused c=bif bU c.key&&decide (0<=c.bF)&&decide (c.bF<=3)then 0 else 1:=by unfold refused;rw[h];rfl
 have e0:decide (c.bF<0)=!decide (0<=c.bF):=by rw[<- decide_not];exact decide_eq_decide.2 (by omega)
 have e3:decide (c.bF>3)=!decide (c.bF<=3):=by rw[<- decide_not];exact decide_eq_decide.2 (by omega)
 rw[e,e0,e3]
 cases bU c.key<;>cases decide (0<=c.bF)<;>cases decide (c.bF<=3)<;>rfl
theorem IC{c:Call}(h:c.kind=7\/c.kind=9):refused c=bif bU c.key then 0 else 1:=by
 unfold refused;rcases h with h|h<;>rw[h]<;>rfl
theorem DH{c:Call}(h:c.kind=10\/c.kind=11\/c.kind=12):refused c=0:=by
 unfold refused;rcases h with h|h|h<;>rw[h]<;>rfl
theorem SB{n:Nat}(hw:GW g)(h:kZ g c):Sm (mS c n) (bY c n) g:=by
 have hlo:=h.lo
 have hhi:=h.hi
 unfold mS
 by_cases hr:refused c=0
 ·by_cases h7:c.kind=7
  ·rw[if_pos h7,FR hr h7]
   have hk:=vW hr (.inl h7)
   refine Sm.ff (by rw[show bU c.key=true from eC hk];rfl) (UD n hw h.aE)
  rw[if_neg h7]
  by_cases h8:c.kind=8
  ·rw[if_pos h8,EF hr h8]
   have hk:=vW hr (.inr (.inl h8))
   have hv:bU c.key=true:=eC hk
   rw[Xi h8]at hr
   cases hb:(!bU c.key||(decide (c.bF<0)||decide (c.bF>3)))with
   |true=>rw[hb]at hr;cases hr
   |false=>exact Sm.ff hb (Vq (h.ro (.inl h8)) hk n g hw h.aE)
  rw[if_neg h8]
  by_cases h9:c.kind=9
  ·rw[if_pos h9,ER hr h9]
   have hk:=vW hr (.inr (.inr h9))
   exact Sm.ff (by rw[show bU c.key=true from eC hk];rfl) (Bg (h.ro (.inr (.inl h9))) n g hw h.aE)
  rw[if_neg h9]
  by_cases h10:c.kind=10
  ·rw[if_pos h10,Xo hr h10];exact Xh n hw h.aE
  rw[if_neg h10]
  by_cases h11:c.kind=11
  ·rw[if_pos h11,Vj hr h11];exact II n hw h.aE
  rw[if_neg h11,Uk hr (by omega)]
  exact Za (h.ro (.inr (.inr (by omega)))) n g hw h.aE
 ·rw[EJ hr]
  by_cases h79:c.kind=7\/c.kind=9
  ·rw[IC h79]at hr ⊢
   cases hv:bU c.key with
   |true=>rw[hv]at hr;exact absurd rfl hr
   |false=>
    rcases h79 with h|h
    ·rw[if_pos h];exact Sm.tt (by rw[hv];rfl) (.ret _ g (q0 rfl))
    ·rw[if_neg (by omega),if_neg (by omega),if_pos h];exact Sm.tt (by rw[hv];rfl) (.ret _ g (q0 rfl))
  ·by_cases h8:c.kind=8
   ·rw[Xi h8]at hr ⊢
    rw[if_neg (by omega),if_pos h8]
    cases hb:(!bU c.key||(decide (c.bF<0)||decide (c.bF>3)))with
    |true=>exact Sm.tt hb (.ret _ g (q0 rfl))
    |false=>rw[hb]at hr;exact absurd rfl hr
   ·exact absurd (DH (by omega)) hr
end Go.Ct
end
section
namespace Go.Ct
variable{g:Ga}
def X.wt(x:X):Nat:=x.e.eG.length+2*x.e.made.length+x.e.cells.length+x.e.dG.length
def Ju(x y:X):Prop:=y.s.size+x.wt<=x.s.size+y.wt
theorem Ju.refl(x:X):Ju x x:=bD _
theorem Ju.trans{x y z:X}(h:Ju x y)(k:Ju y z):Ju x z:=by unfold Ju at *;omega
theorem Sc(s:St)(i:Int):(s.aV i).1.size=s.size+1:=by unfold St.aV St.size;simp;omega
theorem Vf(s:St):s.bS.1.size=s.size+1:=by unfold St.bS St.size;simp;omega
theorem JU{c:Int}{x y:X}{o:Option Int}(h:dY c x=(y,o)):Ju x y:=by
 unfold dY nD rX jR at h;repeat' split at h
 all_goals (cases h;unfold Ju X.wt;try dsimp only)
 all_goals first
  |exact bD _
  |(rw[cO,zG];have:=(St.Cp x.s c).1;omega)
theorem MZ{c a n:Int}{x y:X}{o:Option Bool}(h:iB c a n x=(y,o)):Ju x y:=by
 unfold iB nD rX jR at h;repeat' split at h
 all_goals (cases h;unfold Ju X.wt;try dsimp only)
 all_goals first
  |exact bD _
  |(rw[cO,zG];have:=(St.Bu x.s c a n).1;omega)
theorem CY{n:Node}{i:Int}{x y:X}{o:Option Int}(h:dB n i x=(y,o)):Ju x y:=by
 unfold dB at h;repeat' split at h
 all_goals (cases h;unfold Ju X.wt;try dsimp only)
 all_goals first
  |exact bD _
  |(rw[cO,zG];have:=(St.lP x.s n i).1;omega)
theorem IQ{i:Int}{x y:X}{o:Option Int}(h:fE i x=(y,o)):Ju x y:=by
 unfold fE at h;repeat' split at h
 all_goals (cases h;unfold Ju X.wt;try dsimp only)
 all_goals first
  |exact bD _
  |(rw[cO,zG];have:=Sc x.s i;omega)
theorem PH{x y:X}{o:Option Int}(h:iH x=(y,o)):Ju x y:=by
 unfold iH at h;repeat' split at h
 all_goals (cases h;unfold Ju X.wt;try dsimp only)
 all_goals first
  |exact bD _
  |(rw[cO,zG];have:=Vf x.s;omega)
theorem uF{α β:Type}{r:X×Option α}{f:α->X->X×Option β}{x y:X}{o:Option β}(hr:∀z o,r=(z,o)->Ju x z)(hf:∀v z o,f v z=(y,o)->Ju z y)(h:iP r f=(y,o)):Ju x y:=by
 obtain⟨z,p⟩:=r
 cases p with
 |none=>cases h;exact hr _ _ rfl
 |some v=>exact(hr _ _ rfl).trans (hf v z o h)
theorem pO{α:Type}:∀{t:I α} {x y:X} {o:Option α},aX t x=(y,o)->Ju x y
 |.ret a,x,y,o,h=>by unfold aX at h;split at h<;>(cases h;exact Ju.refl _)
 |.load c k,x,y,o,h=>uF (λ_ _=>JU) (λv z o h=>pO h) h
 |.eA c a n k,x,y,o,h=>uF (λ_ _=>MZ) (λv z o h=>pO h) h
 |.alloc n i k,x,y,o,h=>uF (λ_ _=>CY) (λv z o h=>pO h) h
 |.cell i k,x,y,o,h=>uF (λ_ _=>IQ) (λv z o h=>pO h) h
 |.gen k,x,y,o,h=>uF (λ_ _=>PH) (λv z o h=>pO h) h
 |.node r k,x,y,o,h=>by unfold aX at h;exact pO h
theorem wC(T:I Result)(free:Nat)(x:X):(bX T free x).s.size+x.wt<=x.s.size+(bX T free x).wt:=by
 have h:=pO (t:=T) (x:=cD free x) (y:=(aX T (cD free x)).1) (o:=(aX T (cD free x)).2) rfl
 have e:(cD free x).wt=x.wt/\(cD free x).s=x.s:=⟨rfl,rfl⟩
 unfold Ju at h
 rw[e.1,e.2]at h
 unfold bX JT
 split<;>exact h
theorem Hu(T:I Result)(free:Nat)(x:X):(bX T free x).e.call=x.e.call:=by
 have h:=lZ (t:=T) (x:=cD free x) (y:=(aX T (cD free x)).1) (o:=(aX T (cD free x)).2) rfl
 unfold bX JT
 split<;>exact h
def FU:Nat:=100000000
def Cx:Nat:=2000000
structure Er(g:Ga)(e:Ex)(u u':I Result):Prop where
 ok:kZ g e.call
 aI:e.call.aI<18446744073709551616
 key:e.call.key.size<=9223372036854775807
 sh:Sh u u' g
 rest:Rest (bY e.call FU) u' g e
 made:∀r∈e.made,1<=r/\r<=200000000000
 RZ:e.eG.length<=Cx
theorem Er.ge{g':Ga}{e:Ex}{u u':I Result}(h:Er g e u u')(hw:GW g)(k:Ge g g'):Er g' e u u':=⟨h.ok.ge k,h.aI,h.key,h.sh.ge k hw,h.rest.ge k,h.made,h.RZ⟩
theorem nZ.WL{s:St}(h:nZ g s)(hf:eK s):PG g:=by unfold PG;rw[<- h.nodes];exact hf
theorem Sk{c:Call}(hk:c.kind=8)(h:refused c=0):c.key.size<=64:=vW h (.inr (.inl hk))
theorem Er.MK{e:Ex}{u u':I Result}(h:Er g e u u')(hf:PG g):e.made.length+e.cells.length+e.dG.length<=60+99*e.eG.length:=
 (HQ e.call FU Sk).rp hf h.rest.rp λr hr=>(h.made r hr).1
theorem Er.result{e:Ex}{u u':I Result}(h:Er g e u u')(hd:e.done=true):e.result.aE.root<=0\/Tk g e.result.aE:=by
 have hu:u'.ended.isSome=true:=by rw[<- h.rest.done];exact hd
 have hs:=h.sh
 have hr:=h.rest.A6
 cases hs with
 |ret a _ hq=>rw[hr a rfl];exact hq
 |load τ h1 h2=>cases hu
 |xM h2=>cases hu
 |eA τ h1 hm h2=>cases hu
def room:Nat:=90000000000
theorem Er.ready{e:Ex}{s:St}{u u':I Result}(h:Er g e u u')(ht:nZ g s)(hf:eK s)(hs:s.size<=room):Ok 60 (cD 1 ⟨e,s⟩)/\(cD 1 ⟨e,s⟩).left<FU:=by
 have hu:=h.MK (ht.WL hf)
 have hm:=h.RZ
 unfold Cx at hm
 unfold room at hs
 have hl:(cD 1 ⟨e,s⟩).left=e.eG.length+1:=rfl
 have hz:(cD 1 ⟨e,s⟩).size=s.size+e.eG.length+e.made.length+e.cells.length+e.dG.length:=rfl
 refine⟨⟨hf,.inr ?_,?_,Xe _,Xe _,Xe _,Xe _,h.made,by show 1<=10;decide⟩,by rw[hl];unfold FU;omega⟩
 ·rw[hl,hz];unfold cN;omega
 ·rw[hz];unfold cN;omega
theorem Er.step{e:Ex}{s:St}{u u':I Result}(h:Er g e u u')(hw:GW g)(ht:nZ g s)(hf:eK s)(hd:e.done=false)(hn:e.eG.length<Cx)(hok:Ok 50 (bX (bY e.call FU) 1 ⟨e,s⟩)):
  ∃g' v v',u.step s=((bX (bY e.call FU) 1 ⟨e,s⟩).s,v)/\Ge g g'/\GW g'/\nZ g' (bX (bY e.call FU) 1 ⟨e,s⟩).s/\eK (bX (bY e.call FU) 1 ⟨e,s⟩).s/\Er g' (bX (bY e.call FU) 1 ⟨e,s⟩).e v v'/\
   (bX (bY e.call FU) 1 ⟨e,s⟩).e.eG.length=e.eG.length+1/\(bX (bY e.call FU) 1 ⟨e,s⟩).s.size+(X.mk e s).wt<=s.size+(199*(e.eG.length+1)+120)/\(bX (bY e.call FU) 1 ⟨e,s⟩).wt<=199*(e.eG.length+1)+120:=by
 obtain⟨g',v,v',h1,h2,h3,h4,h5,h6,a,h7⟩:=h.rest.step (x:=⟨e,s⟩) h.sh hw ht hd
 have hc:=Hu (bY e.call FU) 1 ⟨e,s⟩
 have hlen:(bX (bY e.call FU) 1 ⟨e,s⟩).e.eG.length=e.eG.length+1:=by rw[h7,cO];rfl
 have hE:Er g' (bX (bY e.call FU) 1 ⟨e,s⟩).e v v':=⟨by rw[hc];exact h.ok.ge h2,by rw[hc];exact h.aI,by rw[hc];exact h.key,h5,by rw[hc];exact h6,hok.made,by rw[hlen];exact hn⟩
 have hu:=hE.MK (h4.WL hok.fit)
 have hb:=wC (bY e.call FU) 1 ⟨e,s⟩
 have hes:(X.mk e s).s.size=s.size:=rfl
 have hwt:(bX (bY e.call FU) 1 ⟨e,s⟩).wt<=199*(e.eG.length+1)+120:=by unfold X.wt;omega
 exact⟨g',v,v',h1,h2,h3,h4,hok.fit,hE,hlen,by omega,hwt⟩
theorem gW{c:Call}{s:St}(hf:eK s)(hs:s.size<=room):Ok 60 (cD 0 ⟨{call:=c},s⟩)/\(cD 0 ⟨{call:=c},s⟩).left<FU:=by
 unfold room at hs
 have hz:(cD 0 ⟨{call:=c},s⟩).size=s.size:=rfl
 have hl:(cD 0 ⟨{call:=c},s⟩).left=0:=rfl
 refine⟨⟨hf,.inr ?_,?_,Xe _,Xe _,Xe _,Xe _,(λr hr=>by cases hr),by show 0<=10;decide⟩,by rw[hl];unfold FU;omega⟩
 ·rw[hl,hz];unfold cN;omega
 ·rw[hz];unfold cN;omega
theorem Er.start{c:Call}{s:St}(hw:GW g)(ht:nZ g s)(hf:eK s)(hc:kZ g c)(hm:c.aI<18446744073709551616)(hk:c.key.size<=9223372036854775807)(hok:Ok 50 (bX (bY c FU) 0 ⟨{call:=c},s⟩)):
  ∃g' u u',(mS c FU).head s=((bX (bY c FU) 0 ⟨{call:=c},s⟩).s,u)/\Ge g g'/\GW g'/\nZ g' (bX (bY c FU) 0 ⟨{call:=c},s⟩).s/\eK (bX (bY c FU) 0 ⟨{call:=c},s⟩).s/\Er g' (bX (bY c FU) 0 ⟨{call:=c},s⟩).e u u'/\
   (bX (bY c FU) 0 ⟨{call:=c},s⟩).e.eG=[]/\(bX (bY c FU) 0 ⟨{call:=c},s⟩).s.size<=s.size+120/\(bX (bY c FU) 0 ⟨{call:=c},s⟩).wt<=120/\(bX (bY c FU) 0 ⟨{call:=c},s⟩).e.call=c:=by
 obtain⟨g',u,u',h1,h2,h3,h4,h5,h6,h7⟩:=Rest.start (SB (n:=FU) hw hc) hw (x:=⟨{call:=c},s⟩) ht rfl rfl rfl rfl rfl
 have hcc:=Hu (bY c FU) 0 ⟨{call:=c},s⟩
 have hE:Er g' (bX (bY c FU) 0 ⟨{call:=c},s⟩).e u u':=⟨by rw[hcc];exact hc.ge h2,by rw[hcc];exact hm,by rw[hcc];exact hk,h5,by rw[hcc];exact h6,hok.made,by rw[h7];exact Xe _⟩
 have hu:=hE.MK (h4.WL hok.fit)
 have hb:=wC (bY c FU) 0 ⟨{call:=c},s⟩
 rw[h7]at hu
 have hwt:(bX (bY c FU) 0 ⟨{call:=c},s⟩).wt<=120:=by unfold X.wt;rw[h7];simp at hu ⊢;omega
 refine⟨g',u,u',h1,h2,h3,h4,hok.fit,hE,h7,?_,hwt,hcc⟩
 have:(X.mk {call:=c} s).wt=0:=rfl
 rw[this]at hb
 show _<=(X.mk {call:=c} s).s.size+120
 omega
end Go.Ct
end
section
namespace Go.Ct
variable{g:Ga}
structure uM(g:Ga)(S0 i:Nat)(x:X):Prop where
 ex:∃g' u u',Ge g g'/\GW g'/\nZ g' x.s/\eK x.s/\Er g' x.e u u'
 eG:x.e.eG.length<=i
 size:x.s.size<=S0+x.wt
 wt:x.wt<=199*i+120
theorem uM.mono{S0 i j:Nat}{x:X}(h:uM g S0 i x)(hj:i<=j):uM g S0 j x:=⟨h.ex,lK h.eG hj,h.size,by have:=h.wt;omega⟩
theorem uM.call{S0 i:Nat}{x:X}(h:uM g S0 i x):x.e.call.aI<18446744073709551616/\x.e.call.key.size<=9223372036854775807/\7<=x.e.call.kind/\x.e.call.kind<=12:=by
 obtain⟨g',u,u',_,_,_,_,hE⟩:=h.ex
 exact⟨hE.aI,hE.key,hE.ok.lo,hE.ok.hi⟩
theorem uM.start{c:Call}{s:St}(hw:GW g)(ht:nZ g s)(hf:eK s)(hc:kZ g c)(hm:c.aI<18446744073709551616)(hk:c.key.size<=9223372036854775807)(hok:Ok 50 (bX (bY c FU) 0 ⟨{call:=c},s⟩)):
  uM g s.size 0 (bX (bY c FU) 0 ⟨{call:=c},s⟩):=by
 obtain⟨g',u,u',_,h2,h3,h4,h5,h6,h7,h8,h9,_⟩:=Er.start hw ht hf hc hm hk hok
 have hb:=wC (bY c FU) 0 ⟨{call:=c},s⟩
 have e1:(X.mk {call:=c} s).wt=0:=rfl
 have e2:(X.mk {call:=c} s).s.size=s.size:=rfl
 exact⟨⟨g',u,u',h2,h3,h4,h5,h6⟩,by rw[h7];exact bD _,by omega,by omega⟩
theorem uM.ready{S0 i:Nat}{x:X}(h:uM g S0 i x)(hs:S0+199*i+120<=room):Ok 60 (cD 1 x)/\(cD 1 x).left<FU:=by
 obtain⟨g',u,u',_,hw,ht,hf,hE⟩:=h.ex
 have h1:=h.size
 have h2:=h.wt
 exact hE.ready (s:=x.s) ht hf (by omega)
theorem uM.step{S0 i:Nat}{x:X}(h:uM g S0 i x)(hd:x.e.done=false)(hi:i<Cx)(hok:Ok 50 (bX (bY x.e.call FU) 1 x)):uM g S0 (i+1) (bX (bY x.e.call FU) 1 x):=by
 obtain⟨g',u,u',k,hw,ht,hf,hE⟩:=h.ex
 obtain⟨g2,v,v',_,k2,h2,h3,h4,h5,h6,h7,h8⟩:=hE.step (s:=x.s) hw ht hf hd (fU h.eG hi) hok
 have hb:=wC (bY x.e.call FU) 1 x
 have hz:=h.size
 have hg:=h.eG
 exact⟨⟨g2,v,v',k.trans k2,h2,h3,h4,h5⟩,by rw[show (bX (bY x.e.call FU) 1 x).e.eG.length=x.e.eG.length+1 from h6];omega,by omega,lK h8 (by omega)⟩
def DJ(zs:List (Nat×Ex))(b:Nat)(e:Ex):List (Nat×Ex):=if e.done=true then zs else zs++[(b,e)]
def Jw(ts:List bC)(e:Ex):List bC:=if e.done=true/\0<e.result.aE.root/\ts.length<5 then ts++[e.result.aE]else ts
structure Lc(k:Nat)(g:Ga)(s:St)(ts:List bC)(zs:List (Nat×Ex)):Prop where
 gw:GW g
 PI:nZ g s
 fit:eK s
 GO:∀t∈ts,Tk g t
 first:(ts.getD 0 {}).readOnly=false
 some:0<ts.length
 Qr:ts.length<=5
 ex:∀z∈zs,z.2.eG.length<=1048576+k/\∃u u',Er g z.2 u u'
 RZ:zs.length<=k
 size:s.size<=1000000000*(k+1)
theorem Lc.m6{k n b:Nat}{s:St}{ts:List bC}{zs:List (Nat×Ex)}{x:X}(h:Lc k g s ts zs)(hx:uM g s.size n x)(hn:n<=1048576):∃g',Lc (k+1) g' x.s (Jw ts x.e) (DJ zs b x.e):=by
 obtain⟨g',u,u',hk,hw,ht,hf,hE⟩:=hx.ex
 have hT:∀t∈ts,Tk g' t:=λt m=>(h.GO t m).ge hk
 have hZ:∀z∈zs,z.2.eG.length<=1048576+(k+1)/\∃u u',Er g' z.2 u u':=λz m=>by
  obtain⟨h1,v,v',h2⟩:=h.ex z m
  exact⟨by omega,v,v',h2.ge h.gw hk⟩
 have hs:x.s.size<=1000000000*(k+1+1):=by have:=hx.size;have:=hx.wt;have:=h.size;omega
 have h5:=h.Qr
 have h0:=h.some
 refine⟨g',hw,ht,hf,?_,?_,?_,?_,?_,?_,hs⟩
 ·unfold Jw
  split
  ·rename_i hc
   intro t m
   rcases List.mem_append.1 m with m|m
   ·exact hT t m
   ·rw[List.mem_singleton.1 m]
    rcases hE.result hc.1 with hr|hr
    ·omega
    ·exact hr
  ·exact hT
 ·unfold Jw
  split
  ·rw[Fb,xD h0,<- Fb];exact h.first
  ·exact h.first
 ·unfold Jw;split
  ·rw[cO];omega
  ·exact h0
 ·unfold Jw
  split
  ·rename_i hc
   rw[cO,zG];omega
  ·exact h5
 ·unfold DJ
  split
  ·exact hZ
  ·intro z m
   rcases List.mem_append.1 m with m|m
   ·exact hZ z m
   ·rw[List.mem_singleton.1 m]
    exact⟨by have:=hx.eG;show x.e.eG.length<=_;omega,u,u',hE⟩
 ·have:=h.RZ
  unfold DJ;split
  ·omega
  ·rw[cO,zG];omega
theorem Lc.ready{k i:Nat}{s:St}{ts:List bC}{zs:List (Nat×Ex)}(h:Lc k g s ts zs)(hk:k<=40){z:Nat×Ex}(hz:z∈zs):Ok 60 (cD 1 ⟨z.2,s⟩)/\(cD 1 ⟨z.2,s⟩).left<FU/\z.2.call.aI<18446744073709551616/\z.2.call.key.size<=9223372036854775807/\7<=z.2.call.kind/\z.2.call.kind<=12:=by
 obtain⟨h1,u,u',hE⟩:=h.ex z hz
 have hs:=h.size
 obtain⟨a,b⟩:=hE.ready h.PI h.fit (by unfold room;omega)
 exact⟨a,b,hE.aI,hE.key,hE.ok.lo,hE.ok.hi⟩
theorem Lc.step{k i:Nat}{s:St}{ts:List bC}{zs:List (Nat×Ex)}(h:Lc k g s ts zs)(hk:k<=40)(hi:i<zs.length)(hd:zs[i].2.done=false)(hok:Ok 50 (bX (bY zs[i].2.call FU) 1 ⟨zs[i].2,s⟩)):
  ∃g',Lc (k+1) g' (bX (bY zs[i].2.call FU) 1 ⟨zs[i].2,s⟩).s ts (zs.set i (zs[i].1,(bX (bY zs[i].2.call FU) 1 ⟨zs[i].2,s⟩).e)):=by
 obtain⟨h1,u,u',hE⟩:=h.ex _ (qR hi)
 obtain⟨g2,v,v',_,k2,h2,h3,h4,h5,h6,h7,h8⟩:=hE.step h.gw h.PI h.fit hd (by unfold Cx;omega) hok
 have hs:=h.size
 refine⟨g2,h2,h3,h4,λt m=>(h.GO t m).ge k2,h.first,h.some,h.Qr,?_,?_,?_⟩
 ·intro z m
  rcases List.mem_or_eq_of_mem_set m with m|rfl
  ·obtain⟨a,w,w',b⟩:=h.ex z m
   exact⟨by omega,w,w',b.ge h.gw k2⟩
  ·exact⟨by show (bX (bY zs[i].2.call FU) 1 ⟨zs[i].2,s⟩).e.eG.length<=_;omega,v,v',h5⟩
 ·rw[Fh];have:=h.RZ;omega
 ·omega
theorem Lc.mono{k j:Nat}{s:St}{ts:List bC}{zs:List (Nat×Ex)}(h:Lc k g s ts zs)(hj:k<=j):Lc j g s ts zs:=
 ⟨h.gw,h.PI,h.fit,h.GO,h.first,h.some,h.Qr,λz m=>⟨by have:=(h.ex z m).1;omega,(h.ex z m).2⟩,by have:=h.RZ;omega,by have:=h.size;omega⟩
end Go.Ct
end
